/-
  emendbook's Roomy and Intact at int; the reference's Bytes, plainly.
-/
import Derived.Test.YtgdfgahpjebcaaaDoorBkp
import Derived.Test.YtgdfgahpjebcaaaDoorGap
import Derived.Laws.CopyOwn
set_option linter.unusedSimpArgs false
set_option linter.unusedVariables false
namespace Go.Proofs.YtgdfgahpjebcaaaDoor
open Go.RowKit Go.Proofs.YtgdfgahpjebcaaaDoorW.PrintWords Go.Proofs.YtgdfgahpjebcaaaDoor.PT

/-! ### The reference's Bytes -/
theorem byte_f (c : Int) (h : charB c = true) : emendref1_Byte.f c = some (strOfNums (encI c)) := by
  have hc := (charB_spec c).1 h
  unfold emendref1_Byte.f encI
  have d1 : Int.tdiv c 64 = c / 64 := Int.tdiv_eq_ediv_of_nonneg hc.1
  have d2 : Int.tdiv c 4096 = c / 4096 := Int.tdiv_eq_ediv_of_nonneg hc.1
  have d3 : Int.tdiv c 262144 = c / 262144 := Int.tdiv_eq_ediv_of_nonneg hc.1
  have m0 : Int.tmod c 64 = c % 64 := Int.tmod_eq_emod_of_nonneg hc.1
  have m1 : Int.tmod (c / 64) 64 = c / 64 % 64 := Int.tmod_eq_emod_of_nonneg (by omega)
  have m2 : Int.tmod (c / 4096) 64 = c / 4096 % 64 := Int.tmod_eq_emod_of_nonneg (by omega)
  by_cases h1 : c < 128
  · rw [if_pos h1, if_pos h1, show c % 256 = c by omega]
  · rw [if_neg h1, if_neg h1]
    by_cases h2 : c < 2048
    · rw [if_pos h2, if_pos h2, d1, m0, w64 (n := c / 64) (by omega) (by omega), w64 (by omega) (by omega), w64 (by omega) (by omega), show (192 + c / 64) % 256 = 192 + c / 64 by omega, show (128 + c % 64) % 256 = 128 + c % 64 by omega]
    · rw [if_neg h2, if_neg h2]
      by_cases h3 : c < 65536
      · rw [if_pos h3, if_pos h3, d1, d2, m0, w64 (n := c / 64) (by omega) (by omega), w64 (n := c / 4096) (by omega) (by omega), m1, w64 (by omega) (by omega), w64 (by omega) (by omega), w64 (by omega) (by omega), show (224 + c / 4096) % 256 = 224 + c / 4096 by omega, show (128 + c / 64 % 64) % 256 = 128 + c / 64 % 64 by omega, show (128 + c % 64) % 256 = 128 + c % 64 by omega]
      · rw [if_neg h3, if_neg h3, d1, d2, d3, m0, w64 (n := c / 64) (by omega) (by omega), w64 (n := c / 4096) (by omega) (by omega), w64 (n := c / 262144) (by omega) (by omega), m1, m2, w64 (by omega) (by omega), w64 (by omega) (by omega), w64 (by omega) (by omega), w64 (by omega) (by omega), show (240 + c / 262144) % 256 = 240 + c / 262144 by omega, show (128 + c / 4096 % 64) % 256 = 128 + c / 4096 % 64 by omega, show (128 + c / 64 % 64) % 256 = 128 + c / 64 % 64 by omega, show (128 + c % 64) % 256 = 128 + c % 64 by omega]
theorem rbytes_l0 (l : List Int) (hl : l.length ≤ 17592186000000) : ∀ (d k i : Nat) (acc : List Int), l.length - i = d → i ≤ l.length → d < k → acc.length ≤ 4 * i → emendref1_Bytes.l0 k l acc (i : Int) = some (if (l.drop i).all charB then (strOfNums (acc ++ encs (l.drop i)), 0) else (⟨#[]⟩, 5)) := by
  intro d
  induction d with
  | zero =>
    intro k i acc h1 h2 h3 h4
    obtain ⟨k, rfl⟩ : ∃ m, k = m + 1 := ⟨k - 1, by omega⟩
    rw [emendref1_Bytes.l0, if_neg (by omega), List.drop_of_length_le (by omega)]
    simp [encs_nil]
  | succ d ih =>
    intro k i acc h1 h2 h3 h4
    obtain ⟨k, rfl⟩ : ∃ m, k = m + 1 := ⟨k - 1, by omega⟩
    have hlt : i < l.length := by omega
    have hrd : rd l (i : Int) = l[i] := by simp [rd, List.getD_eq_getElem?_getD, List.getElem?_eq_getElem hlt]
    rw [emendref1_Bytes.l0, if_pos (by omega), if_pos (by omega), char_f, Option.bind_some, List.drop_eq_getElem_cons hlt, List.all_cons, hrd]
    cases hc : charB l[i] with
    | false => simp
    | true =>
      have hen := encI_length l[i]
      rw [if_pos rfl, byte_f _ hc, Option.bind_some, str_size, if_pos (by omega), bytesOf_str _ (encI_bytes _ hc), w64 (by omega) (by omega)]
      have := ih k (i + 1) (acc ++ encI l[i]) (by omega) (by omega) (by omega) (by rw [List.length_append]; omega)
      rw [show ((i : Int) + 1) = ((i + 1 : Nat) : Int) by omega, this, encs_cons, ← List.append_assoc]
      rfl
theorem rbytes_f (l : List Int) (hl : l.length ≤ 17592186000000) : emendref1_Bytes.f (l.length + 1) l = some (bytesS l) := by
  unfold emendref1_Bytes.f
  rw [if_pos (by decide)]
  have := rbytes_l0 l hl l.length (l.length + 1) 0 [] (by omega) (by omega) (by omega) (by simp)
  rw [List.drop_zero] at this
  exact this
theorem rbytes_any (A : Option Addr) (c : Nat) (l : List Int) (w : World) (hl : l.length ≤ 17592186000000) (hr : Kd.C (Kd.int .i64) w A l.length l) (hc : l.length ≤ c) (x : ByteArray) (n : Int) (hb : bytesS l = (x, n)) :
    Calls Tryd.prog 32 #[.slice A l.length c] w fun e w' => e = .returned (.tuple #[.string x, .int .i64 n]) ∧ Below w.heap.size w w' :=
  emendref1_Bytes.calls (l.length + 1) A c l x n w hr hc (by rw [rbytes_f l hl, hb])

/-! ### Roomy and Intact -/
/-- A list in new memory with 80 more places behind it. -/
def roomy (l : List Int) (m : Int) : List Int := l ++ List.replicate 80 m
theorem roomy_length (l : List Int) (m : Int) : (roomy l m).length = l.length + 80 := by simp [roomy]
theorem roomy_take (l : List Int) (m : Int) : (roomy l m).take l.length = l := by simp [roomy]
theorem made_list (n : Nat) : (madeCells #[Value.int .i64 0] n).toList = nums .i64 (List.replicate n 0) := by
  apply List.ext_getElem
  · simp [nums, madeCells]
  · intro i h1 h2
    simp [nums, madeCells, Nat.mod_one]
theorem splice_nums (l : List Int) (n : Nat) (h : l.length ≤ n) : splice (nums .i64 (List.replicate n 0)) 0 (nums .i64 l) = nums .i64 (l ++ List.replicate (n - l.length) 0) := by
  unfold splice
  rw [List.take_zero, List.nil_append, nums_append, Nat.zero_add, nums_length]
  congr 1
  simp [nums, List.drop_replicate]
theorem own_of_heap {w : World} {B g n : Nat} {xs : List Int} (hg : w.heap[g]? = some (.cells (nums .i64 xs).toArray 3 (0, 0))) (hB : B ≤ g) (hn : xs.length = n) (hm : n ≤ 9223372036854775807) : w.ownsRow B 3 1 (.slice (some ⟨g, 0, none⟩) n n) n (nums .i64 xs) := by
  subst hn
  refine ⟨by simp [nums], .inr ⟨g, xs.length, _, rfl, hB, hg, Nat.le_refl _, by unfold maxLen; omega, by simp [nums], ?_⟩⟩
  rw [Nat.mul_one]
  exact List.take_of_length_le (by rw [nums_length]; exact Nat.le_refl _)
theorem made_heap (w : World) (n : Nat) : (w.alloc (.cells (madeCells #[Value.int .i64 0] n) 3)).heap[w.heap.size]? = some (.cells (nums .i64 (List.replicate n 0)).toArray 3 (0, 0)) := by
  rw [heap_alloc_new, ← made_list]
theorem nums_one (l : List Int) : ∀ v ∈ nums .i64 l, v.oneCell' = true := by
  intro u hu; simp only [nums, List.mem_map] at hu; obtain ⟨q, _, rfl⟩ := hu; rfl
theorem reads_src {w w1 : World} {A : Option Addr} {n : Nat} {l : List Int} (h : ReadsInt w .i64 A n l) (hb : Below w.heap.size w w1) (hp : 0 < (nums .i64 l).length) : ∃ ad, A = some ad ∧ ∀ (j : Nat) (v : Value), (nums .i64 l)[j]? = some v → w1.cell? (ad.add j) = some v := by
  rw [nums_length] at hp
  have h1 := h.below hb
  have hn := h1.1
  obtain ⟨ad, rfl, hc⟩ := h1.2.2 (by omega)
  refine ⟨ad, rfl, fun j v hv => ?_⟩
  have hj : j < l.length := by
    rcases Nat.lt_or_ge j l.length with h | h
    · exact h
    · simp [nums, List.getElem?_eq_none h] at hv
  rw [hc j (by omega)]
  simp [nums, List.getElem?_eq_getElem hj] at hv
  subst hv
  simp [List.getD_eq_getElem?_getD, List.getElem?_eq_getElem hj]
theorem take_set (xs : List Int) (i : Nat) (x : Int) (h : i < xs.length) : (xs.set i x).take (i + 1) = xs.take i ++ [x] := by
  rw [List.take_succ_eq_append_getElem (by simpa using h), List.take_set_of_le (Nat.le_refl _)]
  simp

set_option maxHeartbeats 4000000 in
set_option maxRecDepth 100000 in
theorem roomy_any (A : Option Addr) (c : Nat) (l : List Int) (m : Int) (w : World) (hr : Kd.C (Kd.int .i64) w A l.length l) (hl : l.length ≤ 1000000) :
    Calls Tryd.prog 31 #[.slice A l.length c, .int .i64 m] w fun e w' => ∃ B, e = .returned (.slice B (l.length + 80) (l.length + 80)) ∧ Kd.C (Kd.int .i64) w' B (roomy l m).length (roomy l m) ∧ Below w.heap.size w w' := by
  have hmk := print_make (P := Tryd.prog) 22 3 .i64 8 Tryd.underlying22 infoInt (by decide) (l.length + 80) (by omega)
  rw [show ((l.length + 80 : Nat) : Int) = (l.length : Int) + 80 by omega] at hmk
  have hR := Aside0.mk (int_reads hr)
  have hsz : (Tryd.prog.info? 3).map (·.size) = some 1 := by kernel_rfl
  have HSZ := Aside0.mk hsz
  clear hr hsz
  go_enter Tryd.func31, Tryd.ntmps31
  go_wp2_with (with_reducible refine wpList_copy_splice rfl (.tmp 11) (.tmp 12) 22 22 rfl 3 Tryd.underlying22 HSZ.out _ A _ _ l.length c rfl rfl w.heap.size 0 (nums .i64 (List.replicate (l.length + 80) 0)) 3 (by exact made_heap w _) (nums .i64 l) (by rw [nums_length]; exact (Nat.min_eq_left (by omega)).symm) (by exact fun hp => ⟨rfl, reads_src hR.out (bl_alloc (Below.refl _ _) _) hp⟩) (by rw [nums_length, nums_length, List.length_replicate]; omega) (by exact nums_one l) w.heap.size w (by exact bl_alloc (Below.refl _ _) _) (Nat.le_refl _) ?_; intro w1 hg1 hb1)
  have hg1 := hg1.out
  rw [splice_nums l _ (by omega)] at hg1
  have HO1 := Aside0.mk (own_of_heap (B := w.heap.size) hg1 (Nat.le_refl _) (n := l.length + 80) (by simp) (by omega))
  have HB1 := Aside0.mk hb1
  clear hg1 hb1 hmk
  go_loopg [6] 80 (fun kq v6 w' => ∃ (i : Nat) (xs : List Int), v6 = .int .i64 i ∧ Aside0 (kq = l.length + 80 - i ∧ l.length ≤ i ∧ i ≤ l.length + 80 ∧ xs.length = l.length + 80 ∧ xs.take i = l ++ List.replicate (i - l.length) m) ∧ Aside0 (w'.ownsRow w.heap.size 3 1 (.slice (some ⟨w.heap.size, 0, none⟩) (l.length + 80) (l.length + 80)) (l.length + 80) (nums .i64 xs)) ∧ Aside0 (Below w.heap.size w w'))
  case atStart => exact ⟨l.length, l ++ List.replicate (l.length + 80 - l.length) 0, rfl, ⟨by omega, Nat.le_refl _, by omega, by simp, by simp⟩, ⟨HO1.out⟩, ⟨HB1.out⟩⟩
  case round =>
    obtain ⟨i, xs, rfl, HI, HO, HB⟩ := hrel
    obtain ⟨hk, hi0, hi1, hxl, hxt⟩ := HI.out
    have HK := Aside0.mk hk
    have HXL := Aside0.mk hxl
    have HXT := Aside0.mk hxt
    clear HI hk hxl hxt
    by_cases hlt : i < l.length + 80
    · have hat := own_at HO.out (i : Int) (by omega) (by omega)
      have hst := own_store HO.out (i : Int) m
      rw [Int.toNat_natCast] at hat hst
      obtain ⟨hc, hf⟩ := hat
      have HST := Aside0.mk hst.1
      have hbs := bl_set HB.out (p := ⟨w.heap.size, i, none⟩) (Nat.le_refl _) (.int .i64 m)
      have HBS := Aside0.mk hbs
      have q1 : ((i : Int) < (l.length : Int) + 80) = True := eq_true (by omega)
      have p1 : (0 : Int) ≤ (i : Int) := by omega
      clear hst hbs
      go_wp2
      go_roundg (l.length + 80 - (i + 1))
      case measure => have := HK.out; omega
      case rel =>
        refine ⟨i + 1, xs.set i m, by go_num, ⟨rfl, by omega, by omega, by rw [List.length_set]; exact HXL.out, ?_⟩, ⟨HST.out⟩, ⟨HBS.out⟩⟩
        rw [take_set xs i m (by rw [HXL.out]; exact hlt), HXT.out, show i + 1 - l.length = (i - l.length) + 1 by omega, List.replicate_succ', List.append_assoc]
    · have hi : i = l.length + 80 := by omega
      have hxs : xs = roomy l m := by
        have h1 := HXT.out
        rw [List.take_of_length_le (by rw [HXL.out]; omega)] at h1
        rw [h1, hi]
        unfold roomy
        congr 2
        omega
      subst hi
      have q1 : (((l.length + 80 : Nat) : Int) < (l.length : Int) + 80) = False := eq_false (by omega)
      have hrd := Kd.C_of_reads (enc := Value.int .i64) (d := (0 : Int)) (h1 := fun _ => rfl) (own_reads' (k := .i64) HO.out)
      have HRD := Aside0.mk hrd
      have HXS := Aside0.mk hxs
      clear hrd hxs hlt
      go_wp2
      go_ret
      refine ⟨_, rfl, ?_, HB.out⟩
      have h2 := HRD.out
      rw [HXS.out] at h2
      rw [roomy_length]; exact h2

set_option maxHeartbeats 4000000 in
set_option maxRecDepth 100000 in
theorem intact_any (A B : Option Addr) (c d : Nat) (l : List Int) (m : Int) (w : World) (hb : Kd.C (Kd.int .i64) w B (roomy l m).length (roomy l m)) (hd : l.length + 80 ≤ d) (hr : Kd.C (Kd.int .i64) w A l.length l) (hc : l.length ≤ c) (hl : l.length ≤ 1000000) :
    Calls Tryd.prog 33 #[.slice B (l.length + 80) d, .slice A l.length c, .int .i64 m] w fun e w' => e = .returned (.bool true) ∧ Below w.heap.size w w' := by
  have hlen := roomy_length l m
  obtain ⟨xs, hxs⟩ : ∃ xs, roomy l m = xs := ⟨_, rfl⟩
  have htk : xs.take l.length = l := by rw [← hxs, roomy_take]
  have hat : ∀ j : Nat, l.length ≤ j → j < l.length + 80 → rd xs (j : Int) = m := by
    intro j h1 h2
    rw [← hxs]
    unfold rd roomy
    rw [Int.toNat_natCast, List.getD_eq_getElem?_getD, List.getElem?_append_right h1, List.getElem?_replicate, if_pos (by omega)]
    rfl
  rw [hxs] at hb hlen
  have hsl := (print_take_int (k := .i64) 22 3 Tryd.underlying22 (info_parts infoInt).choose_spec.1 (info_parts infoInt).choose_spec.2.2.1 B d xs (l.length : Int) (by omega) (by omega) (by omega)).1
  rw [Int.toNat_natCast, htk, hlen] at hsl
  have hcut : Kd.C (Kd.int .i64) w B l.length l := by
    have := (int_reads hb).take_ l.length (by omega)
    rw [htk] at this
    exact Kd.C_of_reads (enc := Value.int .i64) (d := (0 : Int)) (h1 := fun _ => rfl) this
  rw [hlen] at hb
  have HB := Aside0.mk hb
  have HR := Aside0.mk hr
  have HCUT := Aside0.mk hcut
  have HAT := Aside0.mk hat
  have HXS := Aside0.mk hxs
  clear hb hr hcut hat hxs htk hlen
  have q0 : (((l.length : Int) + 80) != ((l.length : Int) + 80)) = false := by simp
  go_enter Tryd.func33, Tryd.ntmps33
  go_wp2_with (first
    | (go_at_call 13; (with_reducible refine (same_hit B A l d c _ (by omega) HCUT.out (by omega) HR.out hc).mono ?_); rintro e w1 ⟨rfl, ⟨nd, rfl⟩⟩))
  clear hsl
  go_loopg [7] 80 (fun kq v7 w' => ∃ i : Nat, v7 = .int .i64 i ∧ Aside0 (kq = l.length + 80 - i ∧ l.length ≤ i ∧ i ≤ l.length + 80) ∧ Aside0 (Below w.heap.size w w'))
  case atStart => exact ⟨l.length, rfl, ⟨by omega, Nat.le_refl _, by omega⟩, ⟨bl_drewN (Below.refl _ _) _⟩⟩
  case round =>
    obtain ⟨i, rfl, HI, HBL⟩ := hrel
    obtain ⟨hk, hi0, hi1⟩ := HI.out
    have HK := Aside0.mk hk
    clear HI hk
    by_cases hlt : i < l.length + 80
    · have hx := Kd.at_int (Kd.C_below HB.out HBL.out) (i : Int) (by omega) (by omega)
      obtain ⟨ad, rfl, hx⟩ := hx
      rw [Int.toNat_natCast, HAT.out i hi0 hlt] at hx
      have q1 : ((i : Int) < (l.length : Int) + 80) = True := eq_true (by omega)
      have p1 : (0 : Int) ≤ (i : Int) := by omega
      have q2 : (m != m) = false := by simp
      go_wp2
      go_roundg (l.length + 80 - (i + 1))
      case measure => have := HK.out; omega
      case rel => exact ⟨i + 1, by go_num, ⟨rfl, by omega, by omega⟩, ⟨HBL.out⟩⟩
    · have hi : i = l.length + 80 := by omega
      subst hi
      have q1 : (((l.length + 80 : Nat) : Int) < (l.length : Int) + 80) = False := eq_false (by omega)
      clear hlt
      go_wp2
      go_ret
      exact ⟨rfl, HBL.out⟩
end Go.Proofs.YtgdfgahpjebcaaaDoor
