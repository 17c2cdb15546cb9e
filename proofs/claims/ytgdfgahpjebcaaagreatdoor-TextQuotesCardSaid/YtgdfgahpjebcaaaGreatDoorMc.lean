import Derived.Test.YtgdfgahpjebcaaaGreatDoorMb
import Derived.Lib.IndexBytes
set_option linter.unusedSimpArgs false
set_option linter.unusedVariables false
/-
  Quoted texts, plainly: what text.Quote writes.
-/
namespace Go.Proofs.YtgdfgahpjebcaaaGreatDoor
open Go.RowKit Go.Proofs.YtgdfgahpjebcaaaGreatDoorW.PrintWords Go.Proofs.YtgdfgahpjebcaaaGreatDoor.PT

def shortI (c : Int) : Int := if c = 34 ∨ c = 92 then c else if c = 8 then 98 else if c = 9 then 116 else if c = 10 then 110 else if c = 12 then 102 else if c = 13 then 114 else 0
def hexI (n : Int) : Int := if n < 10 then 48 + n else 87 + n
/-- How a byte is quoted. -/
def qb (c : Int) : List Int := if shortI c ≠ 0 then [92, shortI c] else if c < 32 ∨ c = 127 then [92, 117, 48, 48, hexI (c / 16), hexI (c % 16)] else [c]
def quoteI (l : List Int) : List Int := 34 :: (l.flatMap qb ++ [34])

theorem short_f (c : Int) : text_short.f 2 c = some (shortI c) := by
  unfold text_short.f shortI
  by_cases h1 : c = 34
  · rw [if_pos h1, text_short.j0, if_pos (by simpa using h1), if_pos (Or.inl h1)]
  · rw [if_neg h1, text_short.j0]
    by_cases h2 : c = 92
    · rw [if_pos (by simpa using h2), if_pos (Or.inr h2)]
    · rw [if_neg (by simpa using h2)]
      have h12 : ¬(c = 34 ∨ c = 92) := fun h => by rcases h with h | h <;> contradiction
      rw [if_neg h12]
      by_cases h3 : c = 8
      · simp only [h3, if_true]
      · by_cases h4 : c = 9
        · simp only [h4, if_true, show ¬((9 : Int) = 8) by decide, if_false]
        · by_cases h5 : c = 10
          · simp only [h5, if_true, show ¬((10 : Int) = 8) by decide, show ¬((10 : Int) = 9) by decide, if_false]
          · by_cases h6 : c = 12
            · simp only [h6, if_true, show ¬((12 : Int) = 8) by decide, show ¬((12 : Int) = 9) by decide, show ¬((12 : Int) = 10) by decide, if_false]
            · by_cases h7 : c = 13
              · simp only [h7, if_true, show ¬((13 : Int) = 8) by decide, show ¬((13 : Int) = 9) by decide, show ¬((13 : Int) = 10) by decide, show ¬((13 : Int) = 12) by decide, if_false]
              · simp only [h3, h4, h5, h6, h7, if_false]
theorem digit_f (n : Int) (h0 : 0 ≤ n) (h1 : n < 4611686018427387904) : text_digit.f n = some (hexI (n % 16)) := by
  unfold text_digit.f
  rw [Bit.and15 h0 h1, if_pos (by omega), if_pos (by omega)]
  have h : n % 16 = 0 ∨ n % 16 = 1 ∨ n % 16 = 2 ∨ n % 16 = 3 ∨ n % 16 = 4 ∨ n % 16 = 5 ∨ n % 16 = 6 ∨ n % 16 = 7 ∨ n % 16 = 8 ∨ n % 16 = 9 ∨ n % 16 = 10 ∨ n % 16 = 11 ∨ n % 16 = 12 ∨ n % 16 = 13 ∨ n % 16 = 14 ∨ n % 16 = 15 := by omega
  rcases h with h | h | h | h | h | h | h | h | h | h | h | h | h | h | h | h <;> rw [h] <;> rfl
theorem shortI_range (c : Int) (h0 : 0 ≤ c) (h1 : c < 256) : 0 ≤ shortI c ∧ shortI c < 256 := by
  unfold shortI; repeat' split
  all_goals omega
theorem qb_length (c : Int) : 1 ≤ (qb c).length ∧ (qb c).length ≤ 6 := by
  unfold qb; split
  · simp
  · split <;> simp
theorem qbs_length (l : List Int) : (l.flatMap qb).length ≤ 6 * l.length := by
  induction l with
  | nil => simp
  | cons c l ih => rw [List.flatMap_cons, List.length_append, List.length_cons]; have := qb_length c; omega
theorem qb_bytes (c : Int) (h0 : 0 ≤ c) (h1 : c < 256) : ∀ x ∈ qb c, 0 ≤ x ∧ x < 256 := by
  have hs := shortI_range c h0 h1
  have hh : ∀ n, 0 ≤ n → n < 16 → 0 ≤ hexI n ∧ hexI n < 256 := fun n a b => by unfold hexI; split <;> omega
  have q1 := hh (c / 16) (by omega) (by omega)
  have q2 := hh (c % 16) (by omega) (by omega)
  intro x hx
  unfold qb at hx
  split at hx
  · simp at hx; rcases hx with rfl | rfl <;> omega
  · split at hx
    · simp at hx; rcases hx with rfl | rfl | rfl | rfl | rfl <;> omega
    · simp at hx; omega
theorem bytesOf_range (s : ByteArray) : ∀ x ∈ bytesOf s, 0 ≤ x ∧ x < 256 := by
  intro x hx
  unfold bytesOf at hx
  obtain ⟨b, _, rfl⟩ := List.mem_map.1 hx
  have := b.toNat_lt
  omega
theorem take_bytes (s : ByteArray) (i : Nat) (h : i < s.size) : (bytesOf s).take (i + 1) = (bytesOf s).take i ++ [bt s i] := by
  have hl : i < (bytesOf s).length := by rw [bytesOf_length]; exact h
  rw [List.take_succ_eq_append_getElem hl]
  congr 2
  rw [← rd_bytesOf]
  simp [rd, List.getD_eq_getElem?_getD, List.getElem?_eq_getElem hl]
theorem quoteI_bytes (s : ByteArray) : ∀ x ∈ quoteI (bytesOf s), 0 ≤ x ∧ x < 256 := by
  intro x hx
  unfold quoteI at hx
  simp only [List.mem_cons, List.mem_append, List.mem_flatMap, List.mem_singleton] at hx
  rcases hx with rfl | ⟨c, hc, hx⟩ | hx
  · omega
  · have := bytesOf_range s c hc; exact qb_bytes c this.1 this.2 x hx
  · simp at hx; omega
end Go.Proofs.YtgdfgahpjebcaaaGreatDoor
/-
  text.Quote, walked.
-/
namespace Go.Proofs.YtgdfgahpjebcaaaGreatDoor
open Go.RowKit Go.Proofs.YtgdfgahpjebcaaaGreatDoorW.PrintWords Go.Proofs.YtgdfgahpjebcaaaGreatDoor.PT

set_option maxHeartbeats 2000000 in
set_option maxRecDepth 100000 in
theorem quote_bad (s : ByteArray) (l : List Int) (a : Nat) (w : World) (hs : s.size ≤ 140737488355328) (h : Scan s 0 l (some a)) :
    Calls Tryz.prog 5 #[.string s] w fun e w' => e = .returned (.tuple #[.string ⟨#[]⟩, .int .i64 10]) ∧ Below w.heap.size w w' := by
  have hv : text_Valid.f (s.size + 9) s = some false := valid_f hs h
  have HV := Aside0.mk hv
  clear hv
  go_enter Tryz.func5, Tryz.ntmps5
  go_wp2_with (first
    | (go_at_call 12; (with_reducible refine (text_Valid.calls (s.size + 9) s false _ HV.out).mono ?_); rintro e w1 ⟨rfl, ⟨nd, rfl⟩⟩))
  go_ret2
  exact ⟨rfl, by repeat (first | exact Below.refl _ _ | refine bl_drew ?_ | refine bl_drewN ?_ _ | refine bl_alloc ?_ _)⟩

set_option maxHeartbeats 4000000 in
set_option maxRecDepth 100000 in
theorem quote_ok (s : ByteArray) (l : List Int) (w : World) (hs : s.size ≤ 17592186000000) (h : Scan s 0 l none) :
    Calls Tryz.prog 5 #[.string s] w fun e w' => e = .returned (.tuple #[.string (strOfNums (quoteI (bytesOf s))), .int .i64 0]) ∧ Below w.heap.size w w' := by
  have hv : text_Valid.f (s.size + 9) s = some true := valid_f (by omega) h
  have HV := Aside0.mk hv
  clear hv
  go_enter Tryz.func5, Tryz.ntmps5
  go_wp2_with (first
    | (go_at_call 12; (with_reducible refine (text_Valid.calls (s.size + 9) s true _ HV.out).mono ?_); rintro e w1 ⟨rfl, ⟨nd, rfl⟩⟩)
    | (go_at_call 13; (with_reducible refine (bld_byte w.heap.size w.heap.size [] 34 _ ?_ ?_ ?_).mono ?_); (focus exact bld_new _); (focus simp); (focus simp); rintro e w1 ⟨rfl, hB1, hb1⟩))
  have HB1 := Aside0.mk hB1
  have HB2 := Aside0.mk hb1
  clear hB1 hb1
  go_loopg [14] s.size (fun kq v14 w' => ∃ i : Nat, v14 = .int .i64 i ∧ Aside0 (kq = s.size - i ∧ i ≤ s.size) ∧ Aside0 (Bld w.heap.size w.heap.size (34 :: ((bytesOf s).take i).flatMap qb) w') ∧ Aside0 (Below w.heap.size w w'))
  case atStart => exact ⟨0, rfl, ⟨rfl, Nat.zero_le _⟩, ⟨HB1.out⟩, ⟨(bl_alloc (bl_drewN (Below.refl _ _) _) _).trans HB2.out⟩⟩
  case round =>
    obtain ⟨i, rfl, HI, HBL, HB⟩ := hrel
    have hi0 := HI.out.2
    have hsz := HB.out.size
    have hql := qbs_length ((bytesOf s).take i)
    have htl : ((bytesOf s).take i).length ≤ i := List.length_take_le _ _
    by_cases hlt : i < s.size
    · have hi : i < s.size := hlt
      have q5 : ((s[i]'hi).toNat : Int) = bt s (i : Int) := by have := bt_at s (i : Int) (by simpa using hi); simpa using this
      have htk := take_bytes s i hi
      have hr0 : 0 ≤ bt s (i : Int) ∧ bt s (i : Int) < 256 := by rw [← q5]; have := (s[i]'hi).toNat_lt; omega
      obtain ⟨c, hc⟩ : ∃ c, bt s (i : Int) = c := ⟨_, rfl⟩
      rw [hc] at q5 htk hr0
      have hql2 := qbs_length ((bytesOf s).take (i + 1))
      have htl2 : ((bytesOf s).take (i + 1)).length ≤ i + 1 := List.length_take_le _ _
      have q1 : ((i : Int) < (s.size : Int)) = True := eq_true (by omega)
      have q2 : ((i : Int) + 1).toNat = i + 1 := by omega
      have hl6 : (34 :: ((bytesOf s).take i).flatMap qb).length + 10 ≤ 140737488355328 := by simp only [List.length_cons]; omega
      have hfm : (34 :: ((bytesOf s).take (i + 1)).flatMap qb) = (34 :: ((bytesOf s).take i).flatMap qb) ++ qb c := by rw [htk, List.flatMap_append, List.cons_append]; simp
      have HFM := Aside0.mk hfm
      have hsf := short_f c
      have HSF := Aside0.mk hsf
      have hsr := shortI_range c hr0.1 hr0.2
      by_cases k1 : shortI c = 0
      · by_cases k2 : c < 32 ∨ c = 127
        · have hqb : qb c = [92, 117, 48, 48] ++ [hexI (c / 16)] ++ [hexI (c % 16)] := by unfold qb; rw [if_neg (by simpa using k1), if_pos k2]; rfl
          have HQB := Aside0.mk hqb
          have HK1 := Aside0.mk k1
          have c1 : (c < 32 ∨ (c == 127) = true) := by simpa using k2
          have HC1 := Aside0.mk c1
          have e1 : c / 16 % 16 = c / 16 := by omega
          have hd1 := digit_f (c / 16) (by omega) (by omega)
          have hd2 := digit_f c (by omega) (by omega)
          rw [e1] at hd1
          have HD1 := Aside0.mk hd1
          have HD2 := Aside0.mk hd2
          have hub : bytesOf (⟨#[92, 117, 48, 48]⟩ : ByteArray) = [92, 117, 48, 48] := by decide
          have HUB := Aside0.mk hub
          obtain ⟨d, hdd⟩ : ∃ d, hexI (c / 16) = d := ⟨_, rfl⟩
          obtain ⟨g, hgg⟩ : ∃ g, hexI (c % 16) = g := ⟨_, rfl⟩
          rw [hdd] at HD1 HQB
          rw [hgg] at HD2 HQB
          have hw1 : ∀ w1 : World, Below w.heap.size (wr.drewN 0) w1 → w.heap.size ≤ w1.heap.size := fun w1 h => Nat.le_trans hsz h.size
          rcases k2 with kk | kk
          · have c3 : (c < 32) = True := eq_true kk
            clear hsf k1 kk hqb hfm htk hc hlt hsr hd1 hd2 hub c1 e1 hdd hgg
            go_wp2_with (first
              | (go_at_call 14; (with_reducible refine (text_short.calls 2 c (shortI c) _ HSF.out).mono ?_); rintro e w1 ⟨rfl, ⟨nd, rfl⟩⟩; rw [HK1.out])
              | (go_at_call 15; (with_reducible refine (bld_str w.heap.size w.heap.size (34 :: ((bytesOf s).take i).flatMap qb) ⟨#[92, 117, 48, 48]⟩ _ ?_ ?_ ?_).mono ?_); (focus exact HBL.out); (focus (show _ + 4 ≤ _; simp only [List.length_append, List.length_cons, List.length_nil]; omega)); (focus exact hsz); rintro e w2 ⟨rfl, hB3, hb3⟩; rw [HUB.out] at hB3)
              | (go_at_call 16; (with_reducible refine (text_digit.calls _ _ _ HD1.out).mono ?_); rintro e w3 ⟨rfl, ⟨nd3, rfl⟩⟩)
              | (go_at_call 16; (with_reducible refine (text_digit.calls _ _ _ HD2.out).mono ?_); rintro e w5 ⟨rfl, ⟨nd5, rfl⟩⟩)
              | (go_at_call 13; (with_reducible refine (bld_byte w.heap.size w.heap.size ((34 :: ((bytesOf s).take i).flatMap qb) ++ [92, 117, 48, 48]) d _ ?_ ?_ ?_).mono ?_); (focus exact hB3); (focus (first | (simp only [List.length_append, List.length_cons, List.length_nil]; omega) | (simp; omega))); (focus (have := hb3.size; exact Nat.le_trans hsz this)); rintro e w4 ⟨rfl, hB4, hb4⟩)
              | (go_at_call 13; (with_reducible refine (bld_byte w.heap.size w.heap.size ((34 :: ((bytesOf s).take i).flatMap qb) ++ [92, 117, 48, 48] ++ [d]) g _ ?_ ?_ ?_).mono ?_); (focus exact hB4); (focus (first | (simp only [List.length_append, List.length_cons, List.length_nil]; omega) | (simp; omega))); (focus (have := hb3.size; have h5 := hb4.size; exact Nat.le_trans hsz (Nat.le_trans this h5))); rintro e w6 ⟨rfl, hB5, hb5⟩))
            go_roundg (s.size - (i + 1))
            case measure => have := HI.out; omega
            case rel =>
              refine ⟨i + 1, by go_num, ⟨rfl, by omega⟩, ⟨?_⟩, ⟨?_⟩⟩
              · rw [HFM.out, HQB.out]
                simp only [← List.append_assoc]; exact hB5
              · exact ((bl_drewN ((bl_drewN ((bl_drewN HB.out _).trans hb3) _).trans hb4) _).trans hb5)
          · have c3 : (c < 32) = False := eq_false (by omega)
            have c4 : (c == 127) = true := by simpa using kk
            clear hsf k1 kk hqb hfm htk hc hlt hsr hd1 hd2 hub c1 e1 hdd hgg
            go_wp2_with (first
              | (go_at_call 14; (with_reducible refine (text_short.calls 2 c (shortI c) _ HSF.out).mono ?_); rintro e w1 ⟨rfl, ⟨nd, rfl⟩⟩; rw [HK1.out])
              | (go_at_call 15; (with_reducible refine (bld_str w.heap.size w.heap.size (34 :: ((bytesOf s).take i).flatMap qb) ⟨#[92, 117, 48, 48]⟩ _ ?_ ?_ ?_).mono ?_); (focus exact HBL.out); (focus (show _ + 4 ≤ _; simp only [List.length_append, List.length_cons, List.length_nil]; omega)); (focus exact hsz); rintro e w2 ⟨rfl, hB3, hb3⟩; rw [HUB.out] at hB3)
              | (go_at_call 16; (with_reducible refine (text_digit.calls _ _ _ HD1.out).mono ?_); rintro e w3 ⟨rfl, ⟨nd3, rfl⟩⟩)
              | (go_at_call 16; (with_reducible refine (text_digit.calls _ _ _ HD2.out).mono ?_); rintro e w5 ⟨rfl, ⟨nd5, rfl⟩⟩)
              | (go_at_call 13; (with_reducible refine (bld_byte w.heap.size w.heap.size ((34 :: ((bytesOf s).take i).flatMap qb) ++ [92, 117, 48, 48]) d _ ?_ ?_ ?_).mono ?_); (focus exact hB3); (focus (first | (simp only [List.length_append, List.length_cons, List.length_nil]; omega) | (simp; omega))); (focus (have := hb3.size; exact Nat.le_trans hsz this)); rintro e w4 ⟨rfl, hB4, hb4⟩)
              | (go_at_call 13; (with_reducible refine (bld_byte w.heap.size w.heap.size ((34 :: ((bytesOf s).take i).flatMap qb) ++ [92, 117, 48, 48] ++ [d]) g _ ?_ ?_ ?_).mono ?_); (focus exact hB4); (focus (first | (simp only [List.length_append, List.length_cons, List.length_nil]; omega) | (simp; omega))); (focus (have := hb3.size; have h5 := hb4.size; exact Nat.le_trans hsz (Nat.le_trans this h5))); rintro e w6 ⟨rfl, hB5, hb5⟩))
            go_roundg (s.size - (i + 1))
            case measure => have := HI.out; omega
            case rel =>
              refine ⟨i + 1, by go_num, ⟨rfl, by omega⟩, ⟨?_⟩, ⟨?_⟩⟩
              · rw [HFM.out, HQB.out]
                simp only [← List.append_assoc]; exact hB5
              · exact ((bl_drewN ((bl_drewN ((bl_drewN HB.out _).trans hb3) _).trans hb4) _).trans hb5)
        · have hqb : qb c = [c] := by unfold qb; rw [if_neg (by simpa using k1), if_neg k2]
          have HQB := Aside0.mk hqb
          have HK1 := Aside0.mk k1
          have c1 : (c < 32) = False := eq_false (by omega)
          have c2 : (c == 127) = false := by simp; omega
          clear hsf k1 k2 hqb hfm htk hc hlt hsr
          go_wp2_with (first
            | (go_at_call 14; (with_reducible refine (text_short.calls 2 c (shortI c) _ HSF.out).mono ?_); rintro e w1 ⟨rfl, ⟨nd, rfl⟩⟩; rw [HK1.out])
            | (go_at_call 13; (with_reducible refine (bld_byte w.heap.size w.heap.size (34 :: ((bytesOf s).take i).flatMap qb) c _ ?_ ?_ ?_).mono ?_); (focus (exact HBL.out)); (focus (first | (simp only [List.length_append, List.length_cons, List.length_nil]; omega) | (simp; omega))); (focus (exact hsz)); rintro e w1 ⟨rfl, hB3, hb3⟩))
          go_roundg (s.size - (i + 1))
          case measure => have := HI.out; omega
          case rel =>
            refine ⟨i + 1, by go_num, ⟨rfl, by omega⟩, ⟨?_⟩, ⟨(bl_drewN HB.out _).trans hb3⟩⟩
            rw [HFM.out, HQB.out]; exact hB3
      · obtain ⟨d, hd⟩ : ∃ d, shortI c = d := ⟨_, rfl⟩
        have hqb : qb c = [92] ++ [d] := by unfold qb; rw [if_pos k1, hd]; rfl
        have HQB := Aside0.mk hqb
        rw [hd] at HSF k1
        have d1 : (d == 0) = false := by simpa using k1
        have d2 : (d = 0) = False := eq_false k1
        clear hsf k1 hqb hfm htk hc hlt hsr hd
        go_wp2_with (first
          | (go_at_call 14; (with_reducible refine (text_short.calls 2 c d _ HSF.out).mono ?_); rintro e w1 ⟨rfl, ⟨nd, rfl⟩⟩)
          | (go_at_call 13; (with_reducible refine (bld_byte w.heap.size w.heap.size (34 :: ((bytesOf s).take i).flatMap qb) 92 _ ?_ ?_ ?_).mono ?_); (focus (exact HBL.out)); (focus (first | (simp only [List.length_append, List.length_cons, List.length_nil]; omega) | (simp; omega))); (focus (exact hsz)); rintro e w1 ⟨rfl, hB3, hb3⟩)
          | (go_at_call 13; (with_reducible refine (bld_byte w.heap.size w.heap.size ((34 :: ((bytesOf s).take i).flatMap qb) ++ [92]) d _ ?_ ?_ ?_).mono ?_); (focus (exact hB3)); (focus (first | (simp only [List.length_append, List.length_cons, List.length_nil]; omega) | (simp; omega))); (focus (have := hb3.size; exact Nat.le_trans hsz this)); rintro e w2 ⟨rfl, hB4, hb4⟩))
        go_roundg (s.size - (i + 1))
        case measure => have := HI.out; omega
        case rel =>
          refine ⟨i + 1, by go_num, ⟨rfl, by omega⟩, ⟨?_⟩, ⟨((bl_drewN HB.out _).trans hb3).trans hb4⟩⟩
          rw [HFM.out, HQB.out, ← List.append_assoc]; exact hB4
    · have hi : i = s.size := by omega
      subst hi
      have htk : (bytesOf s).take s.size = bytesOf s := List.take_of_length_le (by rw [bytesOf_length]; exact Nat.le_refl _)
      have HTK := Aside0.mk htk
      have q1 : ((s.size : Int) < (s.size : Int)) = False := eq_false (by omega)
      clear hlt htk
      go_wp2_with (first
        | (go_at_call 13; (with_reducible refine (bld_byte w.heap.size w.heap.size (34 :: ((bytesOf s).take s.size).flatMap qb) 34 _ ?_ ?_ ?_).mono ?_); (focus (exact HBL.out)); (focus (first | (simp only [List.length_append, List.length_cons, List.length_nil]; omega) | (simp; omega))); (focus (exact hsz)); rintro e w1 ⟨rfl, hB3, hb3⟩)
        | (go_at_call 17; refine (bld_string w.heap.size w.heap.size (quoteI (bytesOf s)) _ (by have := hB3; rw [HTK.out] at this; exact this) (quoteI_bytes s) (by have := hb3.size; omega)).mono ?_; rintro e w2 ⟨rfl, hb4⟩))
      go_ret2
      exact ⟨rfl, (HB.out.trans hb3).trans hb4⟩
end Go.Proofs.YtgdfgahpjebcaaaGreatDoor
/-
  Escapes of quoted texts, plainly: what text.Escaped answers.
-/
namespace Go.Proofs.YtgdfgahpjebcaaaGreatDoor
open Go.RowKit Go.Proofs.YtgdfgahpjebcaaaGreatDoorW.PrintWords Go.Proofs.YtgdfgahpjebcaaaGreatDoor.PT

def valI (c : Int) : Int := if 48 ≤ c ∧ c ≤ 57 then c - 48 else if 97 ≤ c ∧ c ≤ 102 then c - 87 else if 65 ≤ c ∧ c ≤ 70 then c - 55 else -1
theorem valI_range (c : Int) : -1 ≤ valI c ∧ valI c < 16 := by unfold valI; repeat' split
                                                               all_goals omega
theorem value_f (k : Nat) (c : Int) : text_value.f (k + 2) c = some (valI c) := by
  simp only [text_value.f, text_value.j0, text_value.j1, valI, decide_eq_true_eq, Bool.false_eq_true, if_false]
  repeat' split
  all_goals (first | rfl | omega | (congr 1; omega) | (exfalso; omega))

def hexAcc (x : Int) : List Int → Int
  | [] => x
  | c :: l => if valI c < 0 then -1 else hexAcc (x * 16 + valI c) l
def hex4 (s : ByteArray) (i : Int) : Int := if (s.size : Int) - i < 4 then -1 else hexAcc 0 [bt s i, bt s (i + 1), bt s (i + 2), bt s (i + 3)]
theorem hexAcc_range (l : List Int) : ∀ x, 0 ≤ x → -1 ≤ hexAcc x l ∧ hexAcc x l < (x + 1) * 16 ^ l.length := by
  induction l with
  | nil => intro x hx; simp only [hexAcc, List.length_nil]; omega
  | cons c l ih =>
    intro x hx
    have hv := valI_range c
    simp only [hexAcc, List.length_cons]
    have hp : (0 : Int) < 16 ^ l.length := Int.pow_pos (by decide)
    split
    · refine ⟨by omega, ?_⟩
      have : 0 ≤ (x + 1) * 16 ^ (l.length + 1) := Int.mul_nonneg (by omega) (Int.le_of_lt (Int.pow_pos (by decide)))
      omega
    · have := ih (x * 16 + valI c) (by omega)
      refine ⟨this.1, Int.lt_of_lt_of_le this.2 ?_⟩
      rw [Int.pow_succ, Int.mul_comm (16 ^ l.length) 16, ← Int.mul_assoc]
      exact Int.mul_le_mul_of_nonneg_right (by omega) (Int.le_of_lt hp)
theorem hex4_range (s : ByteArray) (i : Int) : -1 ≤ hex4 s i ∧ hex4 s i < 65536 ∧ (0 ≤ hex4 s i → i + 4 ≤ s.size) := by
  unfold hex4
  split
  · omega
  · have := hexAcc_range [bt s i, bt s (i + 1), bt s (i + 2), bt s (i + 3)] 0 (Int.le_refl _)
    simp only [List.length_cons, List.length_nil] at this
    omega
theorem hex_step (k : Nat) (s : ByteArray) (x j : Int) (h0 : 0 ≤ j) (h1 : j < 4) (h2 : j < s.size) (hx0 : 0 ≤ x) (hx1 : x < 1048576) :
    text_Hex.l0 (k + 3) s x 4 j = if valI (bt s j) < 0 then some (-1) else text_Hex.l0 (k + 2) s (x * 16 + valI (bt s j)) 4 (j + 1) := by
  have hv := valI_range (bt s j)
  rw [text_Hex.l0, if_pos h1, if_pos h0, if_pos h2, value_f, Option.bind_some]
  split
  · rfl
  · rw [w64 (by omega) (by omega), w64 (by omega) (by omega), Bit.or4 (by omega) (by omega) (by omega) (by omega) (by omega)]
theorem hex_f (k : Nat) (s : ByteArray) : text_Hex.f (k + 7) s 4 = some (hex4 s 0) := by
  unfold text_Hex.f hex4
  by_cases h : (s.size : Int) < 4
  · rw [if_pos h, if_pos (by omega)]
  · have r0 := valI_range (bt s 0)
    have r1 := valI_range (bt s 1)
    have r2 := valI_range (bt s 2)
    have r3 := valI_range (bt s 3)
    rw [if_neg h, if_neg (by omega)]
    simp only [hexAcc]
    rw [hex_step (k + 4) s 0 0 (by omega) (by omega) (by omega) (by omega) (by omega)]
    rw [show (0 : Int) + 1 = 1 by rfl, show (0 : Int) + 2 = 2 by rfl, show (0 : Int) + 3 = 3 by rfl]
    split
    · rfl
    · rw [hex_step (k + 3) s _ 1 (by omega) (by omega) (by omega) (by omega) (by omega), show (1 : Int) + 1 = 2 by rfl]
      split
      · rfl
      · rw [hex_step (k + 2) s _ 2 (by omega) (by omega) (by omega) (by omega) (by omega), show (2 : Int) + 1 = 3 by rfl]
        split
        · rfl
        · rw [hex_step (k + 1) s _ 3 (by omega) (by omega) (by omega) (by omega) (by omega)]
          split
          · rfl
          · rw [text_Hex.l0, if_neg (by omega)]

theorem pfx_two (t : ByteArray) (a b : UInt8) (h : 2 ≤ t.size) : ((t.extract 0 2).toList == (⟨#[a, b]⟩ : ByteArray).toList) = decide (bt t 0 = a.toNat ∧ bt t 1 = b.toNat) := by
  obtain ⟨tl, htl⟩ := Lib.two_bytes t h
  have e1 : (t.extract 0 2).toList = [t[0], t[1]] := by
    rw [Lib.toList_data, ByteArray.data_extract, Array.toList_extract]
    simp [htl]
  have e2 : (⟨#[a, b]⟩ : ByteArray).toList = [a, b] := by rw [Lib.toList_data]
  have b0 : bt t 0 = (t[0].toNat : Int) := (bt_at t 0 (by simpa using (by omega : 0 < t.size))).symm
  have b1 : bt t 1 = (t[1].toNat : Int) := (bt_at t 1 (by simpa using (by omega : 1 < t.size))).symm
  rw [e1, e2, b0, b1]
  by_cases h0 : t[0] = a
  · by_cases h1 : t[1] = b
    · simp [h0, h1]
    · have : ¬ ((t[1].toNat : Int) = b.toNat) := fun h => h1 (UInt8.toNat_inj.1 (by omega))
      simp [h0, h1, this]
  · have : ¬ ((t[0].toNat : Int) = a.toNat) := fun h => h0 (UInt8.toNat_inj.1 (by omega))
    simp [h0, this]
theorem pfx_f (t : ByteArray) : strings_HasPrefix.f t (⟨#[92, 117]⟩ : ByteArray) = some (decide (2 ≤ t.size ∧ bt t 0 = 92 ∧ bt t 1 = 117)) := by
  unfold strings_HasPrefix.f stringslite_HasPrefix.f
  have hz : (((⟨#[92, 117]⟩ : ByteArray).size : Nat) : Int) = 2 := rfl
  rw [hz]
  by_cases h : 2 ≤ t.size
  · rw [if_pos (by omega), if_pos (by omega), if_pos (by omega), Option.bind_some]
    have := pfx_two t 92 117 h
    have e : ((2 : Int) : Int).toNat = 2 := rfl
    rw [e, this]
    simp [h]
  · rw [if_neg (by omega), Option.bind_some]; simp [h]

def pairI (s : ByteArray) : Int × Int :=
  if hex4 s 1 < 0 then (0, 0) else if hex4 s 1 < 55296 ∨ 57343 < hex4 s 1 then (hex4 s 1, 5)
  else if 56320 ≤ hex4 s 1 ∨ ¬ (7 ≤ s.size ∧ bt s 5 = 92 ∧ bt s 6 = 117) then (0, 0)
  else if hex4 s 7 < 56320 ∨ 57343 < hex4 s 7 then (0, 0) else (65536 + (hex4 s 1 - 55296) * 1024 + hex4 s 7 - 56320, 11)
theorem hex4_extract (s : ByteArray) (i : Nat) (h : i ≤ s.size) : hex4 (s.extract i s.size) 0 = hex4 s i := by
  have hz : (s.extract i s.size).size = s.size - i := by simp
  unfold hex4
  rw [hz, bt_extract s i 0 h (by omega), bt_extract s i (0 + 1) h (by omega), bt_extract s i (0 + 2) h (by omega), bt_extract s i (0 + 3) h (by omega)]
  have e : ((s.size - i : Nat) : Int) - 0 = (s.size : Int) - i := by omega
  rw [e]
  simp
theorem pair_f (k : Nat) (s : ByteArray) (h : 1 ≤ s.size) : text_pair.f (k + 9) s = some (pairI s) := by
  have r1 := hex4_range s 1
  have r7 := hex4_range s 7
  unfold text_pair.f pairI
  rw [if_pos (by omega), hex_f, Option.bind_some]
  have e1 := hex4_extract s 1 h
  rw [show ((1 : Nat) : Int) = 1 from rfl] at e1
  rw [e1]
  have hx : (1 : Int).toNat = 1 := rfl
  by_cases h0 : hex4 s 1 < 0
  · rw [if_pos (by omega), text_pair.j0, if_pos rfl, if_pos h0, if_pos h0]
  · rw [if_neg h0]
    by_cases h1 : hex4 s 1 < 55296
    · rw [if_pos h1, text_pair.j0, if_pos rfl, if_neg h0, if_pos (Or.inl h1)]
    · rw [if_neg h1, text_pair.j0]
      by_cases h2 : 57343 < hex4 s 1
      · rw [if_pos (by simpa using h2), if_neg h0, if_pos (Or.inr h2)]
      · rw [if_neg (by simpa using h2), if_neg (show ¬(hex4 s 1 < 55296 ∨ 57343 < hex4 s 1) by omega)]
        by_cases h3 : 56320 ≤ hex4 s 1
        · rw [if_pos h3, text_pair.j1, if_pos rfl, if_pos (Or.inl h3)]
        · have h5 : 5 ≤ s.size := by omega
          rw [if_neg h3, if_pos (by omega), pfx_f, Option.bind_some, text_pair.j1]
          have hz : (s.extract 5 s.size).size = s.size - 5 := by simp
          have b0 := bt_extract s 5 0 h5 (by omega)
          have b1 := bt_extract s 5 1 h5 (by omega)
          rw [show ((5 : Nat) : Int) + 0 = 5 from rfl] at b0
          rw [show ((5 : Nat) : Int) + 1 = 6 from rfl] at b1
          rw [hz, b0, b1]
          by_cases h4 : 7 ≤ s.size ∧ bt s 5 = 92 ∧ bt s 6 = 117
          · have h4' : 2 ≤ s.size - 5 ∧ bt s 5 = 92 ∧ bt s 6 = 117 := ⟨by omega, h4.2⟩
            have h7 := h4.1
            rw [if_neg (show ¬ ((!decide (2 ≤ s.size - 5 ∧ bt s 5 = 92 ∧ bt s 6 = 117)) = true) by simp only [decide_eq_true h4']; decide), if_pos (show (7 : Int) ≤ s.size by omega), hex_f, Option.bind_some, if_neg (show ¬ (56320 ≤ hex4 s 1 ∨ ¬(7 ≤ s.size ∧ bt s 5 = 92 ∧ bt s 6 = 117)) from fun h => by rcases h with h | h <;> contradiction)]
            have e7 := hex4_extract s 7 h7
            rw [show ((7 : Nat) : Int) = 7 from rfl] at e7
            rw [e7]
            by_cases h8 : hex4 s 7 < 56320
            · rw [if_pos h8, if_pos (Or.inl h8)]
            · by_cases h9 : hex4 s 7 > 57343
              · rw [if_neg h8, if_pos h9, if_pos (Or.inr h9)]
              · rw [if_neg h8, if_neg h9, if_neg (by omega)]
                rw [w64 (n := hex4 s 1 - 55296) (by omega) (by omega), w64 (n := (hex4 s 1 - 55296) * 1024) (by omega) (by omega), w64 (n := 65536 + (hex4 s 1 - 55296) * 1024) (by omega) (by omega), w64 (n := 65536 + (hex4 s 1 - 55296) * 1024 + hex4 s 7) (by omega) (by omega), w64 (by omega) (by omega)]
          · have h4' : ¬ (2 ≤ s.size - 5 ∧ bt s 5 = 92 ∧ bt s 6 = 117) := fun h => h4 ⟨by omega, h.2⟩
            rw [if_pos (by simp only [decide_eq_false h4']; rfl), if_pos (Or.inr h4)]
theorem pairI_range (s : ByteArray) : ((pairI s).2 = 0) ∨ (1 ≤ (pairI s).2 ∧ (pairI s).2 ≤ s.size ∧ charB (pairI s).1 = true) := by
  have r1 := hex4_range s 1
  have r7 := hex4_range s 7
  unfold pairI
  repeat' split
  · exact .inl rfl
  · exact .inr ⟨by simp, by simp; omega, (charB_spec _).2 (by simp; omega)⟩
  · exact .inl rfl
  · exact .inl rfl
  · exact .inr ⟨by simp, by simp; omega, (charB_spec _).2 (by simp; omega)⟩
/-- What text.Escaped answers. -/
def escI (s : ByteArray) : Int × Int :=
  if s.size = 0 then (0, 0) else if bt s 0 = 34 ∨ bt s 0 = 92 ∨ bt s 0 = 47 then (bt s 0, 1) else if bt s 0 = 98 then (8, 1) else if bt s 0 = 116 then (9, 1) else if bt s 0 = 110 then (10, 1)
  else if bt s 0 = 102 then (12, 1) else if bt s 0 = 114 then (13, 1) else if bt s 0 = 117 then pairI s else (0, 0)
theorem escI_range (s : ByteArray) : ((escI s).2 = 0) ∨ (1 ≤ (escI s).2 ∧ (escI s).2 ≤ s.size ∧ charB (escI s).1 = true) := by
  have hp := pairI_range s
  unfold escI
  repeat' split
  all_goals (first | exact .inl rfl | exact hp | exact .inr ⟨by simp, by simp; omega, (charB_spec _).2 (by first | (simp; omega) | simp | omega)⟩)
theorem esc_f (k : Nat) (s : ByteArray) : text_Escaped.f (k + 10) s = some (escI s) := by
  unfold text_Escaped.f
  by_cases h0 : s.size = 0
  · have e : s.toList = [] := by rw [Lib.toList_data]; exact List.eq_nil_of_length_eq_zero (by rw [data_length]; exact h0)
    rw [if_pos e]; unfold escI; rw [if_pos h0]
  · have e : ¬ s.toList = [] := fun h => by rw [Lib.toList_data] at h; have := data_length s; rw [h] at this; exact h0 this.symm
    have hb := bt_range s 0
    rw [if_neg e, if_pos (by omega)]
    have hj : ∀ b : Bool, text_Escaped.j0 (k + 10) s (bt s 0) b = if b = true then some (bt s 0, 1) else if bt s 0 = 98 then some (8, 1) else if bt s 0 = 116 then some (9, 1) else if bt s 0 = 110 then some (10, 1) else if bt s 0 = 102 then some (12, 1) else if bt s 0 = 114 then some (13, 1) else if bt s 0 = 117 then some (pairI s) else some (0, 0) := by
      intro b
      rw [text_Escaped.j0, if_pos (show (0 : Int) < s.size by omega), w64 (by omega) (by omega), pair_f k s (by omega), Option.bind_some]
    rw [hj, hj, hj]
    unfold escI
    rw [if_neg h0]
    by_cases h1 : bt s 0 = 34
    · simp [h1]
    · by_cases h2 : bt s 0 = 92
      · simp [h2]
      · by_cases h3 : bt s 0 = 47
        · simp [h3]
        · have hq : ¬ (bt s 0 = 34 ∨ bt s 0 = 92 ∨ bt s 0 = 47) := by simp [h1, h2, h3]
          rw [if_neg h1, if_neg h2, if_neg (show ¬ ((bt s 0 == 47) = true) by simpa using h3), if_neg hq]
          repeat' split
          all_goals rfl
end Go.Proofs.YtgdfgahpjebcaaaGreatDoor
/-
  text.Quoted and text.Unquote, walked.
-/
namespace Go.Proofs.YtgdfgahpjebcaaaGreatDoor
open Go.RowKit Go.Proofs.YtgdfgahpjebcaaaGreatDoorW.PrintWords Go.Proofs.YtgdfgahpjebcaaaGreatDoor.PT

/-- Reading a quoted text from byte i on: what it says, how many bytes it has; or where it goes wrong, and the number. -/
def qrun (s : ByteArray) : Nat → Nat → List Int → List Int × Int × Int × Int
  | 0, _, _ => ([], 0, s.size, 14)
  | k + 1, i, b =>
    if i < s.size then
      if bt s i = 34 then (b, (i : Int) + 1, 0, 0) else if bt s i < 32 then ([], 0, i, 13)
      else if bt s i = 92 then (if (escI (s.extract (i + 1) s.size)).2 = 0 then ([], 0, i, 11) else qrun s k (i + 1 + (escI (s.extract (i + 1) s.size)).2.toNat) (b ++ encI (escI (s.extract (i + 1) s.size)).1))
      else qrun s k (i + 1) (b ++ [bt s i])
    else ([], 0, s.size, 14)

/-- What text.Quoted answers for R. -/
def QPost (R : List Int × Int × Int × Int) (w : World) (e : Ending) (w' : World) : Prop :=
  (R.2.2.2 = 0 ∧ e = .returned (.tuple #[.string (strOfNums R.1), .int .i64 R.2.1, .pointer none]) ∧ Below w.heap.size w w') ∨
  (R.2.2.2 ≠ 0 ∧ ∃ g, e = .returned (.tuple #[.string ⟨#[]⟩, .int .i64 0, .pointer (some ⟨g, 0, none⟩)]) ∧ IsRef w' g R.2.2.1 R.2.2.2 ∧ w.heap.size ≤ g ∧ Below w.heap.size w w')

set_option maxHeartbeats 4000000 in
set_option maxRecDepth 100000 in
theorem quoted_any (s : ByteArray) (w : World) (hs : s.size ≤ 17592186000000) (h1 : 0 < s.size) (hq : bt s 0 = 34) :
    Calls Tryz.prog 22 #[.string s] w (QPost (qrun s s.size 1 []) w) := by
  obtain ⟨R, hR⟩ : ∃ R, qrun s s.size 1 [] = R := ⟨_, rfl⟩
  rw [hR]
  have HR := Aside0.mk hR
  have q5 : ((s[0]'h1).toNat : Int) = 34 := by have := bt_at s 0 (by simpa using h1); rw [hq] at this; simpa using this
  have hne : (s.toList == ([] : List UInt8)) = false := by
    rw [Lib.toList_data]
    have := data_length s
    cases hd : s.data.toList with
    | nil => rw [hd] at this; simp at this; omega
    | cons a l => rfl
  clear hR
  go_enter Tryz.func22, Tryz.ntmps22
  go_wp2
  go_loopg [5, 6] (s.size - 1) (fun kq v5 v6 w' => ∃ (i : Nat) (b : List Int) (k : Nat), v6 = .int .i64 i ∧ Aside0 (kq = s.size - i ∧ b.length ≤ 4 * i ∧ i ≤ s.size ∧ qrun s k i b = R ∧ s.size - i ≤ k) ∧ Aside0 (w'.ownsRow w.heap.size 5 1 v5 b.length (nums .u8 b)) ∧ Aside0 (Below w.heap.size w w'))
  case atStart => exact ⟨1, [], s.size, rfl, ⟨rfl, by simp, h1, HR.out, by omega⟩, ⟨own_nil _ w.heap.size 5 1⟩, ⟨Below.refl _ _⟩⟩
  case round =>
    obtain ⟨i, b, k, rfl, HI, HO, HB⟩ := hrel
    obtain ⟨hk, hbl, hile, hrun, hkk⟩ := HI.out
    have hsz := HB.out.size
    have hin := isRef_new
    by_cases hlt : i < s.size
    · have hi : i < s.size := hlt
      have q5 : ((s[i]'hi).toNat : Int) = bt s (i : Int) := by have := bt_at s (i : Int) (by simpa using hi); simpa using this
      have hr0 : 0 ≤ bt s (i : Int) ∧ bt s (i : Int) < 256 := by rw [← q5]; have := (s[i]'hi).toNat_lt; omega
      obtain ⟨k', rfl⟩ : ∃ k', k = k' + 1 := ⟨k - 1, by omega⟩
      rw [qrun, if_pos hi] at hrun
      have q1 : ((i : Int) < (s.size : Int)) = True := eq_true (by omega)
      obtain ⟨c, hc⟩ : ∃ c, bt s (i : Int) = c := ⟨_, rfl⟩
      rw [hc] at q5 hr0 hrun
      have HK := Aside0.mk hk
      by_cases k1 : c = 34
      · rw [if_pos k1] at hrun
        have HRR := Aside0.mk hrun
        have c1 : (c == 34) = true := by simpa using k1
        have hO := HO.out
        have hstr := own_string (src := 41) (dst := 9) (e := 5) Tryz.underlying41 Tryz.underlying5 Tryz.underlying9 hO
        clear hrun hO hlt k1 hc HI hin
        go_wp2
        go_ret3
        exact .inl ⟨by rw [← HRR.out], by rw [← HRR.out]; rfl, HB.out⟩
      · rw [if_neg k1] at hrun
        have c1 : (c == 34) = false := by simpa using k1
        by_cases k2 : c < 32
        · rw [if_pos k2] at hrun
          have HRR := Aside0.mk hrun
          have c2 : (c < 32) = True := eq_true k2
          clear hrun hlt k1 k2 hc HI hin
          go_wp2_with (first
            | (go_at_call 21; refine (wrong_any (i : Int) 13 _).mono ?_; rintro e w1 ⟨rfl, rfl⟩))
          go_ret3
          refine .inr ⟨by rw [← HRR.out]; show (13 : Int) ≠ 0; decide, wr.heap.size, rfl, ?_, hsz, bl_alloc HB.out _⟩
          rw [← HRR.out]; exact isRef_new _ _ _
        · rw [if_neg k2] at hrun
          have c2 : (c < 32) = False := eq_false k2
          by_cases k3 : c = 92
          · rw [if_pos k3] at hrun
            have c3 : (c == 92) = true := by simpa using k3
            have hex := esc_f 2 (s.extract (i + 1) s.size)
            have her := escI_range (s.extract (i + 1) s.size)
            have hz : (s.extract (i + 1) s.size).size = s.size - (i + 1) := by simp
            rw [hz] at her
            obtain ⟨r, n, hrn⟩ : ∃ r n, escI (s.extract (i + 1) s.size) = (r, n) := ⟨_, _, rfl⟩
            rw [hrn] at hex her hrun
            simp only at her hrun
            have HEX := Aside0.mk hex
            have p1 : (0 : Int) ≤ (i : Int) + 1 := by omega
            have p2 : (i : Int) + 1 ≤ (s.size : Int) := by omega
            have p3 : ((i : Int) + 1).toNat = i + 1 := by omega
            by_cases k4 : n = 0
            · rw [if_pos k4] at hrun
              have HRR := Aside0.mk hrun
              have c4 : (n == 0) = true := by simpa using k4
              clear hrun hlt k1 k2 k3 hc HI hin hex her hz hrn k4
              go_wp2_with (first
                | (go_at_call 38; (with_reducible refine (text_Escaped.calls 12 (s.extract (i + 1) s.size) r n _ HEX.out).mono ?_); rintro e w1 ⟨rfl, ⟨nd, rfl⟩⟩)
                | (go_at_call 21; refine (wrong_any (i : Int) 11 _).mono ?_; rintro e w1 ⟨rfl, rfl⟩))
              go_ret3
              refine .inr ⟨by rw [← HRR.out]; show (11 : Int) ≠ 0; decide, wr.heap.size, rfl, ?_, hsz, bl_alloc (bl_drewN HB.out _) _⟩
              rw [← HRR.out]; exact isRef_new _ _ (wr.drewN nd)
            · rw [if_neg k4] at hrun
              have HRR := Aside0.mk hrun
              have c4 : (n == 0) = false := by simpa using k4
              obtain ⟨hn1, hn2, hch⟩ := her.resolve_left k4
              obtain ⟨hi0, hi1, _⟩ := (charB_spec _).1 hch
              have hel := encI_length r
              clear hrun hlt k1 k2 k3 hc HI hin hex her hz hrn k4 hch
              go_wp2_with (first
                | (go_at_call 38; (with_reducible refine (text_Escaped.calls 12 (s.extract (i + 1) s.size) r n _ HEX.out).mono ?_); rintro e w1 ⟨rfl, ⟨nd, rfl⟩⟩)
                | (go_at_call 39; refine (put_any w.heap.size _ b r _ (by exact HO.out) (by exact hsz) (by omega) hi0 hi1).mono ?_; rintro e w2 ⟨v', rfl, ho2, hb2⟩))
              go_roundg (s.size - (i + 1 + n.toNat))
              case measure => have := HK.out; omega
              case rel => exact ⟨i + 1 + n.toNat, b ++ encI r, k', by go_num, ⟨rfl, by simp only [List.length_append]; omega, by omega, HRR.out, by omega⟩, ⟨ho2⟩, ⟨(bl_drewN HB.out _).trans hb2⟩⟩
          · rw [if_neg k3] at hrun
            have c3 : (c == 92) = false := by simpa using k3
            have HRR := Aside0.mk hrun
            clear hrun hlt k1 k2 k3 hc HI hin
            go_wp2_with (first
              | (at_builtin; refine app_num (w0 := w) w.heap.size rfl _ _ 41 5 .u8 1 _ rfl rfl Tryz.underlying41 infoByte (by decide) _ b c rfl rfl (by exact HO.out) (by exact HB.out) (by exact hsz) (by omega) ?_; intro v1 w2 ho2 hb2 hg2 hat2))
            go_roundg (s.size - (i + 1))
            case measure => have := HK.out; omega
            case rel => exact ⟨i + 1, b ++ [c], k', by go_num, ⟨rfl, by simp; omega, by omega, HRR.out, by omega⟩, ⟨ho2⟩, ⟨hb2⟩⟩
    · have hi : i = s.size := by omega
      subst hi
      have hr : R = ([], 0, (s.size : Int), 14) := by
        rw [← hrun]
        cases k with
        | zero => rfl
        | succ k => rw [qrun, if_neg (by omega)]
      have HRR := Aside0.mk hr
      have q1 : ((s.size : Int) < (s.size : Int)) = False := eq_false (by omega)
      clear hr hrun hlt hin HI
      go_wp2_with (first
        | (go_at_call 21; refine (wrong_any (s.size : Int) 14 _).mono ?_; rintro e w1 ⟨rfl, rfl⟩))
      go_ret3
      refine .inr ⟨by rw [HRR.out]; show (14 : Int) ≠ 0; decide, wr.heap.size, rfl, ?_, hsz, bl_alloc HB.out _⟩
      rw [HRR.out]; exact isRef_new _ _ _
end Go.Proofs.YtgdfgahpjebcaaaGreatDoor
/-
  text.Unquote, walked.
-/
namespace Go.Proofs.YtgdfgahpjebcaaaGreatDoor
open Go.RowKit Go.Proofs.YtgdfgahpjebcaaaGreatDoorW.PrintWords Go.Proofs.YtgdfgahpjebcaaaGreatDoor.PT

/-- What a function of a text and an error answers: its bytes, or the place and the number of its Refusal. -/
def SPost (x : List Int × Int × Int) (w : World) (e : Ending) (w' : World) : Prop :=
  (x.2.2 = 0 ∧ e = .returned (.tuple #[.string (strOfNums x.1), .nilIface]) ∧ Below w.heap.size w w') ∨
  (x.2.2 ≠ 0 ∧ ∃ g, e = .returned (.tuple #[.string ⟨#[]⟩, .iface 55 (.pointer (some ⟨g, 0, none⟩))]) ∧ IsRef w' g x.2.1 x.2.2 ∧ w.heap.size ≤ g ∧ Below w.heap.size w w')

/-- What text.Unquote answers. -/
def unqI (s : ByteArray) : Option Nat → List Int × Int × Int
  | some a => ([], a, 10)
  | none => if s.size = 0 then ([], 0, 13) else if bt s 0 ≠ 34 then ([], 0, 13) else if (qrun s s.size 1 []).2.2.2 ≠ 0 then ([], (qrun s s.size 1 []).2.2.1, (qrun s s.size 1 []).2.2.2)
    else if (qrun s s.size 1 []).2.1 < s.size then ([], (qrun s s.size 1 []).2.1, 13) else ((qrun s s.size 1 []).1, 0, 0)

theorem isRef_of_drew {w : World} {g : Nat} {a b : Int} (h : IsRef w g a b) (n : Nat) : IsRef (w.drewN n) g a b := h

set_option maxHeartbeats 4000000 in
set_option maxRecDepth 100000 in
theorem unquote_bad (s : ByteArray) (l : List Int) (a : Nat) (w : World) (hs : s.size ≤ 140737488355328) (h : Scan s 0 l (some a)) :
    Calls Tryz.prog 8 #[.string s] w (SPost (unqI s (some a)) w) := by
  have hb : text_Bad.f (s.size + 9) s = some (a : Int) := bad_f hs h
  have HBD := Aside0.mk hb
  clear hb
  have h0 : (0 : Int) ≤ (a : Int) := by omega
  go_enter Tryz.func8, Tryz.ntmps8
  go_wp2_with (first
    | (go_at_call 20; (with_reducible refine (text_Bad.calls (s.size + 9) s (a : Int) _ HBD.out).mono ?_); rintro e w1 ⟨rfl, ⟨nd, rfl⟩⟩)
    | (go_at_call 21; refine (wrong_any (a : Int) 10 _).mono ?_; rintro e w1 ⟨rfl, rfl⟩))
  go_ret2
  exact .inr ⟨by show (10 : Int) ≠ 0; decide, _, rfl, isRef_new _ _ (w.drewN nd), Nat.le_refl _, bl_alloc (bl_drewN (Below.refl _ _) _) _⟩

set_option maxHeartbeats 4000000 in
set_option maxRecDepth 100000 in
theorem unquote_ok (s : ByteArray) (l : List Int) (w : World) (hs : s.size ≤ 17592186000000) (h : Scan s 0 l none) :
    Calls Tryz.prog 8 #[.string s] w (SPost (unqI s none) w) := by
  have hb : text_Bad.f (s.size + 9) s = some (-1) := bad_f (by omega) h
  have HBD := Aside0.mk hb
  clear hb
  obtain ⟨X, hX⟩ : ∃ X, unqI s none = X := ⟨_, rfl⟩
  rw [hX]
  unfold unqI at hX
  by_cases hz : s.size = 0
  · rw [if_pos hz] at hX
    have HX := Aside0.mk hX
    have hne : (s.toList == ([] : List UInt8)) = true := by
      rw [Lib.toList_data]
      have := data_length s
      cases hd : s.data.toList with
      | nil => rfl
      | cons a l => rw [hd] at this; simp at this; omega
    clear hX hz
    go_enter Tryz.func8, Tryz.ntmps8
    go_wp2_with (first
      | (go_at_call 20; (with_reducible refine (text_Bad.calls (s.size + 9) s (-1) _ HBD.out).mono ?_); rintro e w1 ⟨rfl, ⟨nd, rfl⟩⟩)
      | (go_at_call 21; refine (wrong_any 0 13 _).mono ?_; rintro e w1 ⟨rfl, rfl⟩))
    go_ret2
    rw [← HX.out]
    exact .inr ⟨by show (13 : Int) ≠ 0; decide, _, rfl, isRef_new _ _ (w.drewN nd), Nat.le_refl _, bl_alloc (bl_drewN (Below.refl _ _) _) _⟩
  · have h1 : 0 < s.size := by omega
    rw [if_neg hz] at hX
    have hne : (s.toList == ([] : List UInt8)) = false := by
      rw [Lib.toList_data]
      have := data_length s
      cases hd : s.data.toList with
      | nil => rw [hd] at this; simp at this; omega
      | cons a l => rfl
    have q5 : ((s[0]'h1).toNat : Int) = bt s 0 := by have := bt_at s 0 (by simpa using h1); simpa using this
    by_cases hq : bt s 0 = 34
    · rw [if_neg (by simpa using hq)] at hX
      have HQD := fun w => quoted_any s w hs h1 hq
      obtain ⟨R, hR⟩ : ∃ R, qrun s s.size 1 [] = R := ⟨_, rfl⟩
      rw [hR] at hX HQD
      have q6 : ((bt s 0) == 34) = true := by simpa using hq
      rw [hq] at q5
      have HQ := Aside0.mk HQD
      by_cases hw : R.2.2.2 = 0
      · rw [if_neg (by simpa using hw)] at hX
        have HW := Aside0.mk hw
        obtain ⟨n, hn⟩ : ∃ n, R.2.1 = n := ⟨_, rfl⟩
        obtain ⟨b, hbb⟩ : ∃ b, R.1 = b := ⟨_, rfl⟩
        rw [hn, hbb] at hX
        by_cases hlt : n < (s.size : Int)
        · rw [if_pos hlt] at hX
          have HX := Aside0.mk hX
          have HN := Aside0.mk hn
          have c1 : (n < (s.size : Int)) = True := eq_true hlt
          clear hX hlt hw HQD hq hR hz hn hbb
          go_enter Tryz.func8, Tryz.ntmps8
          go_wp2_with (first
            | (go_at_call 20; (with_reducible refine (text_Bad.calls (s.size + 9) s (-1) _ HBD.out).mono ?_); rintro e w1 ⟨rfl, ⟨nd, rfl⟩⟩)
            | (go_at_call 22; (with_reducible refine (HQ.out _).mono ?_); rintro e w1 hpost; obtain ⟨_, rfl, hb1⟩ := Or.resolve_right hpost (fun h => h.1 HW.out); rw [HN.out])
            | (go_at_call 21; refine (wrong_any n 13 _).mono ?_; rintro e w1 ⟨rfl, rfl⟩))
          go_ret2
          rw [← HX.out]
          exact .inr ⟨by show (13 : Int) ≠ 0; decide, _, rfl, isRef_new _ _ w1, hb1.size, bl_alloc ((bl_drewN (Below.refl _ _) _).trans hb1) _⟩
        · rw [if_neg hlt] at hX
          have HX := Aside0.mk hX
          have HN := Aside0.mk hn
          have HBB := Aside0.mk hbb
          have c1 : (n < (s.size : Int)) = False := eq_false hlt
          clear hX hlt hw HQD hq hR hz hn hbb
          go_enter Tryz.func8, Tryz.ntmps8
          go_wp2_with (first
            | (go_at_call 20; (with_reducible refine (text_Bad.calls (s.size + 9) s (-1) _ HBD.out).mono ?_); rintro e w1 ⟨rfl, ⟨nd, rfl⟩⟩)
            | (go_at_call 22; (with_reducible refine (HQ.out _).mono ?_); rintro e w1 hpost; obtain ⟨_, rfl, hb1⟩ := Or.resolve_right hpost (fun h => h.1 HW.out); rw [HN.out, HBB.out]))
          go_ret2
          rw [← HX.out]
          exact .inl ⟨rfl, rfl, ((bl_drewN (Below.refl _ _) _).trans hb1)⟩
      · rw [if_pos hw] at hX
        have HX := Aside0.mk hX
        have HW := Aside0.mk hw
        clear hX hw HQD hq hR hz
        go_enter Tryz.func8, Tryz.ntmps8
        go_wp2_with (first
          | (go_at_call 20; (with_reducible refine (text_Bad.calls (s.size + 9) s (-1) _ HBD.out).mono ?_); rintro e w1 ⟨rfl, ⟨nd, rfl⟩⟩)
          | (go_at_call 22; (with_reducible refine (HQ.out _).mono ?_); rintro e w1 hpost; obtain ⟨_, g, rfl, hrf, hgl, hb1⟩ := Or.resolve_left hpost (fun h => HW.out h.1)))
        go_ret2
        rw [← HX.out]
        exact .inr ⟨HW.out, g, rfl, hrf, hgl, ((bl_drewN (Below.refl _ _) _).trans hb1)⟩
    · rw [if_pos hq] at hX
      have HX := Aside0.mk hX
      have q6 : ((bt s 0) == 34) = false := by simpa using hq
      clear hX hz hq
      go_enter Tryz.func8, Tryz.ntmps8
      go_wp2_with (first
        | (go_at_call 20; (with_reducible refine (text_Bad.calls (s.size + 9) s (-1) _ HBD.out).mono ?_); rintro e w1 ⟨rfl, ⟨nd, rfl⟩⟩)
        | (go_at_call 21; refine (wrong_any 0 13 _).mono ?_; rintro e w1 ⟨rfl, rfl⟩))
      go_ret2
      rw [← HX.out]
      exact .inr ⟨by show (13 : Int) ≠ 0; decide, _, rfl, isRef_new _ _ (w.drewN nd), Nat.le_refl _, bl_alloc (bl_drewN (Below.refl _ _) _) _⟩
end Go.Proofs.YtgdfgahpjebcaaaGreatDoor
/-
  XML's characters and references, plainly.
-/
namespace Go.Proofs.YtgdfgahpjebcaaaGreatDoor
open Go.RowKit Go.Proofs.YtgdfgahpjebcaaaGreatDoorW.PrintWords Go.Proofs.YtgdfgahpjebcaaaGreatDoor.PT

def xmlB (r : Int) : Bool := charB r && (decide (32 ≤ r) || (decide (r = 9) || (decide (r = 10) || decide (r = 13)))) && (decide (r ≠ 65534) && decide (r ≠ 65535))
theorem xml_f (r : Int) : text_XML.f r = some (xmlB r) := by
  unfold text_XML.f
  rw [character_f, Option.bind_some]
  unfold xmlB
  cases charB r with
  | false => rfl
  | true =>
    rw [if_pos rfl]
    have hb : (r != 65535) = decide (r ≠ 65535) := by by_cases h : r = 65535 <;> simp [h]
    rw [hb]
    by_cases h1 : 32 ≤ r
    · rw [if_pos h1]
      by_cases h2 : r = 65534
      · rw [if_pos h2]; simp [h1, h2]
      · rw [if_neg h2]; simp [h1, h2]
    · rw [if_neg h1]
      by_cases h3 : r = 9
      · subst h3; rfl
      · by_cases h4 : r = 10
        · subst h4; rfl
        · by_cases h5 : r = 13
          · subst h5; rfl
          · rw [if_neg h3, if_neg h4, if_neg h5]; simp [h1, h3, h4, h5]
/-- Where the first character that XML doesn't have stands; below 0: nowhere. -/
def badX (i : Nat) : List Int → Int
  | [] => -1
  | r :: l => if xmlB r then badX (i + (encI r).length) l else i
theorem badX_range (l : List Int) : ∀ i, badX i l = -1 ∨ (i : Int) ≤ badX i l := by
  induction l with
  | nil => intro i; exact .inl rfl
  | cons r l ih =>
    intro i
    simp only [badX]
    split
    · rcases ih (i + (encI r).length) with h | h
      · exact .inl h
      · right; omega
    · right; exact Int.le_refl _
theorem badX_l0 {s : ByteArray} (hsz : s.size ≤ 140737488355328) {i : Nat} {l : List Int} (h : Scan s i l none) : ∀ K, s.size - i + 9 ≤ K → text_BadXML.l0 K s i = some (badX i l) := by
  generalize hE : (none : Option Nat) = E at h
  induction h with
  | done =>
    intro K hK
    obtain ⟨K, rfl⟩ : ∃ m, K = m + 1 := ⟨K - 1, by omega⟩
    rw [text_BadXML.l0, if_neg (by omega)]; rfl
  | @bad i hi h => cases hE
  | @step i c l e hi h k ih =>
    intro K hK
    have := encI_length c
    have hle := k.le
    obtain ⟨K, rfl⟩ : ∃ m, K = m + 8 + 1 := ⟨K - 9, by omega⟩
    have hf := first_at K s i hi
    rw [h] at hf
    have e1 : ((i : Int)).toNat = i := by omega
    rw [text_BadXML.l0, if_pos (by omega), if_pos (by omega), if_pos (by omega), e1, hf, Option.bind_some, xml_f, Option.bind_some]
    simp only [badX]
    by_cases hx : xmlB c = true
    · rw [if_pos hx, if_pos hx, w64 (by omega) (by omega), ← Int.natCast_add]
      exact ih hE _ (by omega)
    · rw [if_neg hx, if_neg hx]
theorem badX_f {s : ByteArray} (hsz : s.size ≤ 140737488355328) {l : List Int} (h : Scan s 0 l none) : text_BadXML.f (s.size + 9) s = some (badX 0 l) := badX_l0 hsz h _ (by omega)

/-- How a byte is written; empty: as it is. -/
def refB (c : Int) (attr : Bool) : ByteArray :=
  if c = 38 then ⟨#[38, 97, 109, 112, 59]⟩ else if c = 60 then ⟨#[38, 108, 116, 59]⟩ else if c = 62 then ⟨#[38, 103, 116, 59]⟩ else if c = 13 then ⟨#[38, 35, 49, 51, 59]⟩
  else if attr then (if c = 34 then ⟨#[38, 113, 117, 111, 116, 59]⟩ else if c = 9 then ⟨#[38, 35, 57, 59]⟩ else if c = 10 then ⟨#[38, 35, 49, 48, 59]⟩ else ⟨#[]⟩) else ⟨#[]⟩
theorem ref_f (c : Int) (attr : Bool) : text_reference.f c attr = some (refB c attr) := by
  unfold text_reference.f refB
  by_cases h1 : c = 38
  · rw [if_pos h1, if_pos h1]
  · rw [if_neg h1, if_neg h1]
    by_cases h2 : c = 60
    · rw [if_pos h2, if_pos h2]
    · rw [if_neg h2, if_neg h2]
      by_cases h3 : c = 62
      · rw [if_pos h3, if_pos h3]
      · rw [if_neg h3, if_neg h3]
        by_cases h4 : c = 13
        · rw [if_pos h4, if_pos h4]
        · rw [if_neg h4, if_neg h4]
          cases attr with
          | false => rfl
          | true =>
            rw [if_pos rfl, if_pos rfl]
            by_cases h5 : c = 34
            · rw [if_pos h5, if_pos h5]
            · rw [if_neg h5, if_neg h5]
              by_cases h6 : c = 9
              · rw [if_pos h6, if_pos h6]
              · rw [if_neg h6, if_neg h6]
                by_cases h7 : c = 10
                · rw [if_pos h7, if_pos h7]
                · rw [if_neg h7, if_neg h7]
theorem refB_size (c : Int) (attr : Bool) : (refB c attr).size ≤ 6 := by
  unfold refB
  repeat' split
  all_goals decide
/-- A byte's bytes. -/
def eb (attr : Bool) (c : Int) : List Int := if (refB c attr).size = 0 then [c] else bytesOf (refB c attr)
theorem eb_length (attr : Bool) (c : Int) : (eb attr c).length ≤ 6 := by
  unfold eb; split
  · simp
  · rw [bytesOf_length]; exact refB_size c attr
theorem ebs_length (attr : Bool) (l : List Int) : (l.flatMap (eb attr)).length ≤ 6 * l.length := by
  induction l with
  | nil => simp
  | cons c l ih => rw [List.flatMap_cons, List.length_append, List.length_cons]; have := eb_length attr c; omega
theorem ebs_bytes (attr : Bool) (s : ByteArray) : ∀ x ∈ (bytesOf s).flatMap (eb attr), 0 ≤ x ∧ x < 256 := by
  intro x hx
  obtain ⟨c, hc, hx⟩ := List.mem_flatMap.1 hx
  have := bytesOf_range s c hc
  unfold eb at hx
  split at hx
  · simp at hx; omega
  · exact bytesOf_range _ x hx
end Go.Proofs.YtgdfgahpjebcaaaGreatDoor
/-
  text.Escape, walked.
-/
namespace Go.Proofs.YtgdfgahpjebcaaaGreatDoor
open Go.RowKit Go.Proofs.YtgdfgahpjebcaaaGreatDoorW.PrintWords Go.Proofs.YtgdfgahpjebcaaaGreatDoor.PT

/-- What text.Escape answers. -/
def escS (attr : Bool) (s : ByteArray) (l : List Int) : Option Nat → List Int × Int
  | some _ => ([], 10)
  | none => if 0 ≤ badX 0 l then ([], 13) else ((bytesOf s).flatMap (eb attr), 0)

set_option maxHeartbeats 4000000 in
set_option maxRecDepth 100000 in
theorem escape_any (attr : Bool) (s : ByteArray) (l : List Int) (er : Option Nat) (w : World) (hs : s.size ≤ 17592186000000) (h : Scan s 0 l er) :
    Calls Tryz.prog 32 #[.string s, .bool attr] w fun e w' => e = .returned (.tuple #[.string (strOfNums (escS attr s l er).1), .int .i64 (escS attr s l er).2]) ∧ Below w.heap.size w w' := by
  have hv : text_Valid.f (s.size + 9) s = some er.isNone := valid_f (by omega) h
  have HV := Aside0.mk hv
  clear hv
  cases er with
  | some a =>
    replace HV : Aside0 (text_Valid.f (s.size + 9) s = some false) := HV
    go_enter Tryz.func32, Tryz.ntmps32
    go_wp2_with (first
      | (go_at_call 12; (with_reducible refine (text_Valid.calls (s.size + 9) s false _ HV.out).mono ?_); rintro e w1 ⟨rfl, ⟨nd, rfl⟩⟩))
    go_ret2
    exact ⟨rfl, by repeat (first | exact Below.refl _ _ | refine bl_drew ?_ | refine bl_drewN ?_ _ | refine bl_alloc ?_ _)⟩
  | none =>
    replace HV : Aside0 (text_Valid.f (s.size + 9) s = some true) := HV
    obtain ⟨X, hX⟩ : ∃ X, escS attr s l none = X := ⟨_, rfl⟩
    rw [hX]
    unfold escS at hX
    have hbx := badX_f (by omega) h
    obtain ⟨bx, hbb⟩ : ∃ bx, badX 0 l = bx := ⟨_, rfl⟩
    rw [hbb] at hbx hX
    have HBX := Aside0.mk hbx
    clear hbx hbb
    by_cases hb : 0 ≤ bx
    · rw [if_pos hb] at hX
      have HX := Aside0.mk hX
      have c1 : (bx ≥ 0) = True := eq_true hb
      clear hX hb
      go_enter Tryz.func32, Tryz.ntmps32
      go_wp2_with (first
        | (go_at_call 12; (with_reducible refine (text_Valid.calls (s.size + 9) s true _ HV.out).mono ?_); rintro e w1 ⟨rfl, ⟨nd, rfl⟩⟩)
        | (go_at_call 47; (with_reducible refine (text_BadXML.calls (s.size + 9) s bx _ HBX.out).mono ?_); rintro e w1 ⟨rfl, ⟨nd2, rfl⟩⟩))
      go_ret2
      rw [← HX.out]
      exact ⟨rfl, by repeat (first | exact Below.refl _ _ | refine bl_drew ?_ | refine bl_drewN ?_ _ | refine bl_alloc ?_ _)⟩
    · rw [if_neg hb] at hX
      have HX := Aside0.mk hX
      have c1 : (bx ≥ 0) = False := eq_false hb
      clear hX hb
      go_enter Tryz.func32, Tryz.ntmps32
      go_wp2_with (first
        | (go_at_call 12; (with_reducible refine (text_Valid.calls (s.size + 9) s true _ HV.out).mono ?_); rintro e w1 ⟨rfl, ⟨nd, rfl⟩⟩)
        | (go_at_call 47; (with_reducible refine (text_BadXML.calls (s.size + 9) s bx _ HBX.out).mono ?_); rintro e w1 ⟨rfl, ⟨nd2, rfl⟩⟩))
      go_loopg [17] s.size (fun kq v17 w' => ∃ i : Nat, v17 = .int .i64 i ∧ Aside0 (kq = s.size - i ∧ i ≤ s.size) ∧ Aside0 (Bld w.heap.size w.heap.size (((bytesOf s).take i).flatMap (eb attr)) w') ∧ Aside0 (Below w.heap.size w w'))
      case atStart => exact ⟨0, rfl, ⟨rfl, Nat.zero_le _⟩, ⟨bld_new _⟩, ⟨bl_alloc (bl_drewN (Below.refl _ _) _) _⟩⟩
      case round =>
        obtain ⟨i, rfl, HI, HBL, HB⟩ := hrel
        have hi0 := HI.out.2
        have hsz := HB.out.size
        have hql := ebs_length attr ((bytesOf s).take i)
        have htl : ((bytesOf s).take i).length ≤ i := List.length_take_le _ _
        by_cases hlt : i < s.size
        · have hi : i < s.size := hlt
          have q5 : ((s[i]'hi).toNat : Int) = bt s (i : Int) := by have := bt_at s (i : Int) (by simpa using hi); simpa using this
          have htk := take_bytes s i hi
          have hr0 : 0 ≤ bt s (i : Int) ∧ bt s (i : Int) < 256 := by rw [← q5]; have := (s[i]'hi).toNat_lt; omega
          obtain ⟨c, hc⟩ : ∃ c, bt s (i : Int) = c := ⟨_, rfl⟩
          rw [hc] at q5 htk hr0
          have q1 : ((i : Int) < (s.size : Int)) = True := eq_true (by omega)
          have hfm : ((bytesOf s).take (i + 1)).flatMap (eb attr) = ((bytesOf s).take i).flatMap (eb attr) ++ eb attr c := by rw [htk, List.flatMap_append]; simp
          have HFM := Aside0.mk hfm
          have hrf := ref_f c attr
          have hrs := refB_size c attr
          obtain ⟨x, hx⟩ : ∃ x, refB c attr = x := ⟨_, rfl⟩
          have heb : eb attr c = if x.size = 0 then [c] else bytesOf x := by unfold eb; rw [hx]
          rw [hx] at hrf hrs
          have HRF := Aside0.mk hrf
          by_cases k1 : x.size = 0
          · rw [if_pos k1] at heb
            have HEB := Aside0.mk heb
            have hxe : x = ⟨#[]⟩ := by
              have : x.data.size = 0 := k1
              cases x with | mk d => cases d with | mk l => cases l with
                | nil => rfl
                | cons a l => simp at this
            subst hxe
            clear hrf heb hfm htk hc hlt k1 hrs hx
            go_wp2_with (first
              | (go_at_call 48; (with_reducible refine (text_reference.calls c attr ⟨#[]⟩ _ HRF.out).mono ?_); rintro e w1 ⟨rfl, ⟨nd3, rfl⟩⟩)
              | (go_at_call 13; (with_reducible refine (bld_byte w.heap.size w.heap.size (((bytesOf s).take i).flatMap (eb attr)) c _ ?_ ?_ ?_).mono ?_); (focus exact HBL.out); (focus omega); (focus exact hsz); rintro e w1 ⟨rfl, hB3, hb3⟩))
            go_roundg (s.size - (i + 1))
            case measure => have := HI.out; omega
            case rel =>
              refine ⟨i + 1, by go_num, ⟨rfl, by omega⟩, ⟨?_⟩, ⟨(bl_drewN HB.out _).trans hb3⟩⟩
              rw [HFM.out, HEB.out]; exact hB3
          · rw [if_neg k1] at heb
            have HEB := Aside0.mk heb
            have hne : (x.toList == ([] : List UInt8)) = false := by
              rw [Lib.toList_data]
              have := data_length x
              cases hd : x.data.toList with
              | nil => rw [hd] at this; simp at this; omega
              | cons a l => rfl
            clear hrf heb hfm htk hc hlt k1 hx
            go_wp2_with (first
              | (go_at_call 48; (with_reducible refine (text_reference.calls c attr x _ HRF.out).mono ?_); rintro e w1 ⟨rfl, ⟨nd3, rfl⟩⟩)
              | (go_at_call 15; (with_reducible refine (bld_str w.heap.size w.heap.size (((bytesOf s).take i).flatMap (eb attr)) x _ ?_ ?_ ?_).mono ?_); (focus exact HBL.out); (focus omega); (focus exact hsz); rintro e w1 ⟨rfl, hB3, hb3⟩))
            go_roundg (s.size - (i + 1))
            case measure => have := HI.out; omega
            case rel =>
              refine ⟨i + 1, by go_num, ⟨rfl, by omega⟩, ⟨?_⟩, ⟨(bl_drewN HB.out _).trans hb3⟩⟩
              rw [HFM.out, HEB.out]; exact hB3
        · have hi : i = s.size := by omega
          subst hi
          have htk : (bytesOf s).take s.size = bytesOf s := List.take_of_length_le (by rw [bytesOf_length]; exact Nat.le_refl _)
          have HTK := Aside0.mk htk
          have q1 : ((s.size : Int) < (s.size : Int)) = False := eq_false (by omega)
          clear hlt htk
          go_wp2_with (first
            | (go_at_call 17; refine (bld_string w.heap.size w.heap.size ((bytesOf s).flatMap (eb attr)) _ (by have := HBL.out; rw [HTK.out] at this; exact this) (ebs_bytes attr s) (by omega)).mono ?_; rintro e w2 ⟨rfl, hb4⟩))
          go_ret2
          rw [← HX.out]
          exact ⟨rfl, HB.out.trans hb4⟩
end Go.Proofs.YtgdfgahpjebcaaaGreatDoor
