/-
  emendlaw1.TextSizes, walked.
-/
import Derived.Test.YtgdfgahpjebcaaaDoorMd
import Derived.BigQuiet
set_option linter.unusedSimpArgs false
set_option linter.unusedVariables false
namespace Go.Proofs.YtgdfgahpjebcaaaDoor
open Go.RowKit Go.Proofs.YtgdfgahpjebcaaaDoorW.PrintWords Go.Proofs.YtgdfgahpjebcaaaDoor.PT

theorem one_bytes (c : Int) (w : World) (A : Option Addr) (h : Kd.C (Kd.int .i64) w A 1 [c]) (s : ByteArray) (n : Int) (hb : bytesS [c] = (s, n)) :
    Calls Tryd.prog 15 #[.slice A 1 1] w fun e w' => e = .returned (.tuple #[.string s, .int .i64 n]) ∧ Below w.heap.size w w' := by
  have k := bytes_any A 1 [c] w h (by simp) (by simp)
  rw [hb] at k; exact k
theorem runs_later (w w1 : World) (he : Env w) (hb : Below w.heap.size w w1) : Calls Tryd.prog 3 #[] w1 fun e w' => e = .returned (.bool true) ∧ Below w.heap.size w w' :=
  (runs_true w1 (he.below hb he.size)).mono fun e w' h => ⟨h.1, bl_trans hb h.2⟩

set_option maxHeartbeats 4000000 in
set_option maxRecDepth 100000 in
theorem sizes_none (c : Int) (w : World) (he : Env w) (hc : charB c = false) (h1 : c < 0 ∨ (0 ≤ c ∧ 1114111 < c) ∨ (0 ≤ c ∧ c ≤ 1114111 ∧ 55296 ≤ c ∧ c ≤ 57343)) :
    Calls Tryd.prog 11 #[.int .i64 c] w fun e w' => e = .returned (.bool true) ∧ Below w.heap.size w w' := by
  have hb : bytesS [c] = (⟨#[]⟩, 5) := by unfold bytesS; rw [if_neg (by simp [hc])]
  rcases h1 with h1 | ⟨h1, h2⟩ | ⟨h1, h2, h3, h4⟩
  · have c1 : (c < 0) = True := eq_true h1
    clear h1
    go_enter Tryd.func11, Tryd.ntmps11
    go_wp2_with (first
      | (go_at_call 15; (with_reducible refine (one_bytes c _ _ ?_ _ _ hb).mono ?_); (focus exact one_C _ _); rintro e w1 ⟨rfl, hc1⟩)
      | (go_at_call 3; (with_reducible refine (runs_later w _ he ?_).mono ?_); (focus exact bl_trans (bl_alloc (Below.refl _ _) _) hc1); rintro e w2 ⟨rfl, hc2⟩))
    go_ret
    exact ⟨rfl, hc2⟩
  · have c1 : (c < 0) = False := eq_false (by omega)
    have c2 : (c > 1114111) = True := eq_true h2
    clear h1 h2
    go_enter Tryd.func11, Tryd.ntmps11
    go_wp2_with (first
      | (go_at_call 15; (with_reducible refine (one_bytes c _ _ ?_ _ _ hb).mono ?_); (focus exact one_C _ _); rintro e w1 ⟨rfl, hc1⟩)
      | (go_at_call 3; (with_reducible refine (runs_later w _ he ?_).mono ?_); (focus exact bl_trans (bl_alloc (Below.refl _ _) _) hc1); rintro e w2 ⟨rfl, hc2⟩))
    go_ret
    exact ⟨rfl, hc2⟩
  · have c1 : (c < 0) = False := eq_false (by omega)
    have c2 : (c > 1114111) = False := eq_false (by omega)
    have c3 : (c ≥ 55296) = True := eq_true h3
    have c4 : (c ≤ 57343) = True := eq_true h4
    clear h1 h2 h3 h4
    go_enter Tryd.func11, Tryd.ntmps11
    go_wp2_with (first
      | (go_at_call 15; (with_reducible refine (one_bytes c _ _ ?_ _ _ hb).mono ?_); (focus exact one_C _ _); rintro e w1 ⟨rfl, hc1⟩)
      | (go_at_call 3; (with_reducible refine (runs_later w _ he ?_).mono ?_); (focus exact bl_trans (bl_alloc (Below.refl _ _) _) hc1); rintro e w2 ⟨rfl, hc2⟩))
    go_ret
    exact ⟨rfl, hc2⟩
/-! ### SIZES -/
theorem str_at (l : List Int) (i : Nat) (h : i < (strOfNums l).size) (hl : i < l.length) (h0 : 0 ≤ l[i]) (h1 : l[i] < 256) : (((strOfNums l)[i]'h).toNat : Int) = l[i] := by
  have e : (strOfNums l)[i]'h = UInt8.ofNat (l[i]).toNat := by
    show (strOfNums l).data[i] = _
    simp [strOfNums]
  rw [e, UInt8.toNat_ofNat']
  omega
namespace Bit
theorem and31 {x : Int} (h0 : 0 ≤ x) (h1 : x < 4611686018427387904) : bits .and .i64 x 31 = x % 32 := bits_mask .i64 62 (by decide) wraps 5 (by decide) x h0 h1
theorem and7 {x : Int} (h0 : 0 ≤ x) (h1 : x < 4611686018427387904) : bits .and .i64 x 7 = x % 8 := bits_mask .i64 62 (by decide) wraps 3 (by decide) x h0 h1
end Bit

set_option maxHeartbeats 4000000 in
set_option maxRecDepth 100000 in
theorem sizes_1 (c : Int) (w : World) (he : Env w) (hc : charB c = true) (h0 : 0 ≤ c) (h1 : c ≤ 127) :
    Calls Tryd.prog 11 #[.int .i64 c] w fun e w' => e = .returned (.bool true) ∧ Below w.heap.size w w' := by
  have hE : encI c = [c] := by unfold encI; rw [if_pos (by omega)]
  have hchr := char_f c
  rw [hc] at hchr
  have HCH := Aside0.mk hchr
  have hin := (charB_spec c).1 hc
  have hb : bytesS [c] = (strOfNums [c], 0) := by unfold bytesS; rw [if_pos (by simp [hc])]; rw [show encs [c] = encI c ++ [] from rfl, hE]; rfl
  have hsz : (strOfNums [c]).size = 1 := by rw [strOfNums_size]; rfl
  have hb0 : ∀ h : 0 < (strOfNums [c]).size, (((strOfNums [c])[0]'h).toNat : Int) = c := fun h => (str_at _ 0 h (by simp) (by simp only [List.getElem_cons_succ, List.getElem_cons_zero]; omega) (by simp only [List.getElem_cons_succ, List.getElem_cons_zero]; omega)).trans rfl
  obtain ⟨s, hs⟩ : ∃ s, strOfNums [c] = s := ⟨_, rfl⟩
  rw [hs] at hb hsz
  have q0 : ∀ h : 0 < s.size, ((s[0]'h).toNat : Int) = c := by subst hs; exact hb0
  clear hb0 hs hE hchr hc
  have HB := Aside0.mk hb
  have HSZ := Aside0.mk hsz
  have c0 : ((s.size : Int)) = 1 := by omega
  have d1 : (c < 0) = False := eq_false (by omega)
  have d2 : (c > 1114111) = False := eq_false (by omega)
  have d3 : (c ≥ 55296) = False := eq_false (by omega)
  have d5 : (c ≥ 128) = False := eq_false (by omega)
  have d6 : (c ≥ 2048) = False := eq_false (by omega)
  have d7 : (c ≥ 65536) = False := eq_false (by omega)
  clear hb hsz
  go_enter Tryd.func11, Tryd.ntmps11
  go_wp2_with (first
    | (go_at_call 15; (with_reducible refine (one_bytes c _ _ ?_ _ _ HB.out).mono ?_); (focus exact one_C _ _); rintro e w1 ⟨rfl, hc1⟩))
  go_loopg [6, 7] 1 (fun kq v6 v7 w' => ∃ (i : Nat) (n : Int), v7 = .int .i64 i ∧ v6 = .int .i64 n ∧ Aside0 (kq = 1 - i ∧ ((i = 0 ∧ n = 0) ∨ (i = 1 ∧ n = c))) ∧ Aside0 (Below w.heap.size w w'))
  case atStart => exact ⟨0, 0, rfl, rfl, ⟨rfl, .inl ⟨rfl, rfl⟩⟩, ⟨bl_trans (bl_alloc (Below.refl _ _) _) hc1⟩⟩
  case round =>
    obtain ⟨i, n, rfl, rfl, HI, HBW⟩ := hrel
    obtain ⟨hk, hcs⟩ := HI.out
    have hwz := HBW.out.size
    rcases hcs with ⟨rfl, hn⟩ | ⟨rfl, hn⟩
    · have hn2 := hn.symm
      clear hn
      subst hn2
      have HK := Aside0.mk hk
      clear hk HI
      have a1 : ((0 : Int) < (s.size : Int)) = True := eq_true (by omega)
      go_wp2
      go_quiet (fail)
      go_wp2
      go_roundg 0
      case measure => have := HK.out; omega
      case rel => exact ⟨1, c, by go_num, by go_num, ⟨rfl, .inr (⟨rfl, rfl⟩)⟩, ⟨by first | exact HBW.out | exact bl_alloc HBW.out _ | exact bl_drewN (bl_alloc HBW.out _) _⟩⟩
    · have hn2 := hn.symm
      clear hn
      subst hn2
      have HK := Aside0.mk hk
      clear hk HI
      have a1 : ((1 : Int) < (s.size : Int)) = False := eq_false (by omega)
      have a2 : (c == c) = true := by simp
      go_wp2_with (first
        | (go_at_call 41; (with_reducible refine (emendref1_Char.calls c true _ HCH.out).mono ?_); rintro e w2 ⟨rfl, ⟨nd, rfl⟩⟩)
        | (go_at_call 3; (with_reducible refine (runs_later w _ he ?_).mono ?_); (focus exact bl_drewN HBW.out _); rintro e w3 ⟨rfl, hc3⟩))
      go_ret
      exact ⟨rfl, hc3⟩

set_option maxHeartbeats 4000000 in
set_option maxRecDepth 100000 in
theorem sizes_2 (c : Int) (w : World) (he : Env w) (hc : charB c = true) (h0 : 128 ≤ c) (h1 : c ≤ 2047) :
    Calls Tryd.prog 11 #[.int .i64 c] w fun e w' => e = .returned (.bool true) ∧ Below w.heap.size w w' := by
  have hE : encI c = [192 + c / 64, 128 + c % 64] := by unfold encI; rw [if_neg (by omega), if_pos (by omega)]
  have hchr := char_f c
  rw [hc] at hchr
  have HCH := Aside0.mk hchr
  have hin := (charB_spec c).1 hc
  have hb : bytesS [c] = (strOfNums [192 + c / 64, 128 + c % 64], 0) := by unfold bytesS; rw [if_pos (by simp [hc])]; rw [show encs [c] = encI c ++ [] from rfl, hE]; rfl
  have hsz : (strOfNums [192 + c / 64, 128 + c % 64]).size = 2 := by rw [strOfNums_size]; rfl
  have hb0 : ∀ h : 0 < (strOfNums [192 + c / 64, 128 + c % 64]).size, (((strOfNums [192 + c / 64, 128 + c % 64])[0]'h).toNat : Int) = 192 + c / 64 := fun h => (str_at _ 0 h (by simp) (by simp only [List.getElem_cons_succ, List.getElem_cons_zero]; omega) (by simp only [List.getElem_cons_succ, List.getElem_cons_zero]; omega)).trans rfl
  have hb1 : ∀ h : 1 < (strOfNums [192 + c / 64, 128 + c % 64]).size, (((strOfNums [192 + c / 64, 128 + c % 64])[1]'h).toNat : Int) = 128 + c % 64 := fun h => (str_at _ 1 h (by simp) (by simp only [List.getElem_cons_succ, List.getElem_cons_zero]; omega) (by simp only [List.getElem_cons_succ, List.getElem_cons_zero]; omega)).trans rfl
  obtain ⟨s, hs⟩ : ∃ s, strOfNums [192 + c / 64, 128 + c % 64] = s := ⟨_, rfl⟩
  rw [hs] at hb hsz
  have q0 : ∀ h : 0 < s.size, ((s[0]'h).toNat : Int) = 192 + c / 64 := by subst hs; exact hb0
  have q1 : ∀ h : 1 < s.size, ((s[1]'h).toNat : Int) = 128 + c % 64 := by subst hs; exact hb1
  clear hb0 hb1 hs hE hchr hc
  have HB := Aside0.mk hb
  have HSZ := Aside0.mk hsz
  have c0 : ((s.size : Int)) = 2 := by omega
  have d1 : (c < 0) = False := eq_false (by omega)
  have d2 : (c > 1114111) = False := eq_false (by omega)
  have d3 : (c ≥ 55296) = False := eq_false (by omega)
  have d5 : (c ≥ 128) = True := eq_true (by omega)
  have d6 : (c ≥ 2048) = False := eq_false (by omega)
  have d7 : (c ≥ 65536) = False := eq_false (by omega)
  clear hb hsz
  go_enter Tryd.func11, Tryd.ntmps11
  go_wp2_with (first
    | (go_at_call 15; (with_reducible refine (one_bytes c _ _ ?_ _ _ HB.out).mono ?_); (focus exact one_C _ _); rintro e w1 ⟨rfl, hc1⟩))
  go_loopg [6, 7] 2 (fun kq v6 v7 w' => ∃ (i : Nat) (n : Int), v7 = .int .i64 i ∧ v6 = .int .i64 n ∧ Aside0 (kq = 2 - i ∧ ((i = 0 ∧ n = 0) ∨ (i = 1 ∧ n = c / 64) ∨ (i = 2 ∧ n = c))) ∧ Aside0 (Below w.heap.size w w'))
  case atStart => exact ⟨0, 0, rfl, rfl, ⟨rfl, .inl ⟨rfl, rfl⟩⟩, ⟨bl_trans (bl_alloc (Below.refl _ _) _) hc1⟩⟩
  case round =>
    obtain ⟨i, n, rfl, rfl, HI, HBW⟩ := hrel
    obtain ⟨hk, hcs⟩ := HI.out
    have hwz := HBW.out.size
    rcases hcs with ⟨rfl, hn⟩ | ⟨rfl, hn⟩ | ⟨rfl, hn⟩
    · have hn2 := hn.symm
      clear hn
      subst hn2
      have HK := Aside0.mk hk
      clear hk HI
      have a1 : ((0 : Int) < (s.size : Int)) = True := eq_true (by omega)
      have g0 : bits .and .i64 (192 + c / 64) 31 = c / 64 := by rw [Bit.and31 (by omega) (by omega)]; omega
      go_wp2
      go_quiet (fail)
      go_wp2
      go_roundg 1
      case measure => have := HK.out; omega
      case rel => exact ⟨1, c / 64, by go_num, by go_num, ⟨rfl, .inr (.inl ⟨rfl, rfl⟩)⟩, ⟨by first | exact HBW.out | exact bl_alloc HBW.out _ | exact bl_drewN (bl_alloc HBW.out _) _⟩⟩
    · have hn2 := hn.symm
      clear hn
      subst hn2
      have HK := Aside0.mk hk
      clear hk HI
      have a1 : ((1 : Int) < (s.size : Int)) = True := eq_true (by omega)
      have g1 : bits .and .i64 (128 + c % 64) 63 = c % 64 := by rw [Bit.and63 (by omega) (by omega)]; omega
      have g2 : bits .or .i64 (c / 64 * 64) (c % 64) = c := by rw [Bit.or6 (by omega) (by omega) (by omega) (by omega) (by omega)]; omega
      have g3 : bits .or .i64 (c / 64 * 64) (bits .and .i64 (128 + c % 64) 63) = c := by rw [g1, g2]
      go_wp2
      go_roundg 0
      case measure => have := HK.out; omega
      case rel => exact ⟨2, c, by go_num, by go_num, ⟨rfl, .inr (.inr (⟨rfl, rfl⟩))⟩, ⟨by first | exact HBW.out | exact bl_alloc HBW.out _ | exact bl_drewN (bl_alloc HBW.out _) _⟩⟩
    · have hn2 := hn.symm
      clear hn
      subst hn2
      have HK := Aside0.mk hk
      clear hk HI
      have a1 : ((2 : Int) < (s.size : Int)) = False := eq_false (by omega)
      have a2 : (c == c) = true := by simp
      go_wp2_with (first
        | (go_at_call 41; (with_reducible refine (emendref1_Char.calls c true _ HCH.out).mono ?_); rintro e w2 ⟨rfl, ⟨nd, rfl⟩⟩)
        | (go_at_call 3; (with_reducible refine (runs_later w _ he ?_).mono ?_); (focus exact bl_drewN HBW.out _); rintro e w3 ⟨rfl, hc3⟩))
      go_ret
      exact ⟨rfl, hc3⟩

set_option maxHeartbeats 4000000 in
set_option maxRecDepth 100000 in
theorem sizes_3 (c : Int) (w : World) (he : Env w) (hc : charB c = true) (h0 : 2048 ≤ c) (h1 : c ≤ 65535) :
    Calls Tryd.prog 11 #[.int .i64 c] w fun e w' => e = .returned (.bool true) ∧ Below w.heap.size w w' := by
  have hE : encI c = [224 + c / 4096, 128 + c / 64 % 64, 128 + c % 64] := by unfold encI; rw [if_neg (by omega), if_neg (by omega), if_pos (by omega)]
  have hchr := char_f c
  rw [hc] at hchr
  have HCH := Aside0.mk hchr
  have hin := (charB_spec c).1 hc
  have hb : bytesS [c] = (strOfNums [224 + c / 4096, 128 + c / 64 % 64, 128 + c % 64], 0) := by unfold bytesS; rw [if_pos (by simp [hc])]; rw [show encs [c] = encI c ++ [] from rfl, hE]; rfl
  have hsz : (strOfNums [224 + c / 4096, 128 + c / 64 % 64, 128 + c % 64]).size = 3 := by rw [strOfNums_size]; rfl
  have hb0 : ∀ h : 0 < (strOfNums [224 + c / 4096, 128 + c / 64 % 64, 128 + c % 64]).size, (((strOfNums [224 + c / 4096, 128 + c / 64 % 64, 128 + c % 64])[0]'h).toNat : Int) = 224 + c / 4096 := fun h => (str_at _ 0 h (by simp) (by simp only [List.getElem_cons_succ, List.getElem_cons_zero]; omega) (by simp only [List.getElem_cons_succ, List.getElem_cons_zero]; omega)).trans rfl
  have hb1 : ∀ h : 1 < (strOfNums [224 + c / 4096, 128 + c / 64 % 64, 128 + c % 64]).size, (((strOfNums [224 + c / 4096, 128 + c / 64 % 64, 128 + c % 64])[1]'h).toNat : Int) = 128 + c / 64 % 64 := fun h => (str_at _ 1 h (by simp) (by simp only [List.getElem_cons_succ, List.getElem_cons_zero]; omega) (by simp only [List.getElem_cons_succ, List.getElem_cons_zero]; omega)).trans rfl
  have hb2 : ∀ h : 2 < (strOfNums [224 + c / 4096, 128 + c / 64 % 64, 128 + c % 64]).size, (((strOfNums [224 + c / 4096, 128 + c / 64 % 64, 128 + c % 64])[2]'h).toNat : Int) = 128 + c % 64 := fun h => (str_at _ 2 h (by simp) (by simp only [List.getElem_cons_succ, List.getElem_cons_zero]; omega) (by simp only [List.getElem_cons_succ, List.getElem_cons_zero]; omega)).trans rfl
  obtain ⟨s, hs⟩ : ∃ s, strOfNums [224 + c / 4096, 128 + c / 64 % 64, 128 + c % 64] = s := ⟨_, rfl⟩
  rw [hs] at hb hsz
  have q0 : ∀ h : 0 < s.size, ((s[0]'h).toNat : Int) = 224 + c / 4096 := by subst hs; exact hb0
  have q1 : ∀ h : 1 < s.size, ((s[1]'h).toNat : Int) = 128 + c / 64 % 64 := by subst hs; exact hb1
  have q2 : ∀ h : 2 < s.size, ((s[2]'h).toNat : Int) = 128 + c % 64 := by subst hs; exact hb2
  clear hb0 hb1 hb2 hs hE hchr hc
  have HB := Aside0.mk hb
  have HSZ := Aside0.mk hsz
  have c0 : ((s.size : Int)) = 3 := by omega
  have d1 : (c < 0) = False := eq_false (by omega)
  have d2 : (c > 1114111) = False := eq_false (by omega)
  rcases (show c < 55296 ∨ 57343 < c by omega) with hg | hg
  · clear hin
    have d3 : (c ≥ 55296) = False := eq_false (by omega)
    have d5 : (c ≥ 128) = True := eq_true (by omega)
    have d6 : (c ≥ 2048) = True := eq_true (by omega)
    have d7 : (c ≥ 65536) = False := eq_false (by omega)
    clear hb hsz
    go_enter Tryd.func11, Tryd.ntmps11
    go_wp2_with (first
      | (go_at_call 15; (with_reducible refine (one_bytes c _ _ ?_ _ _ HB.out).mono ?_); (focus exact one_C _ _); rintro e w1 ⟨rfl, hc1⟩))
    go_loopg [6, 7] 3 (fun kq v6 v7 w' => ∃ (i : Nat) (n : Int), v7 = .int .i64 i ∧ v6 = .int .i64 n ∧ Aside0 (kq = 3 - i ∧ ((i = 0 ∧ n = 0) ∨ (i = 1 ∧ n = c / 4096) ∨ (i = 2 ∧ n = c / 64) ∨ (i = 3 ∧ n = c))) ∧ Aside0 (Below w.heap.size w w'))
    case atStart => exact ⟨0, 0, rfl, rfl, ⟨rfl, .inl ⟨rfl, rfl⟩⟩, ⟨bl_trans (bl_alloc (Below.refl _ _) _) hc1⟩⟩
    case round =>
      obtain ⟨i, n, rfl, rfl, HI, HBW⟩ := hrel
      obtain ⟨hk, hcs⟩ := HI.out
      have hwz := HBW.out.size
      rcases hcs with ⟨rfl, hn⟩ | ⟨rfl, hn⟩ | ⟨rfl, hn⟩ | ⟨rfl, hn⟩
      · have hn2 := hn.symm
        clear hn
        subst hn2
        have HK := Aside0.mk hk
        clear hk HI
        have a1 : ((0 : Int) < (s.size : Int)) = True := eq_true (by omega)
        have g0 : bits .and .i64 (224 + c / 4096) 15 = c / 4096 := by rw [Bit.and15 (by omega) (by omega)]; omega
        go_wp2
        go_quiet (fail)
        go_wp2
        go_roundg 2
        case measure => have := HK.out; omega
        case rel => exact ⟨1, c / 4096, by go_num, by go_num, ⟨rfl, .inr (.inl ⟨rfl, rfl⟩)⟩, ⟨by first | exact HBW.out | exact bl_alloc HBW.out _ | exact bl_drewN (bl_alloc HBW.out _) _⟩⟩
      · have hn2 := hn.symm
        clear hn
        subst hn2
        have HK := Aside0.mk hk
        clear hk HI
        have a1 : ((1 : Int) < (s.size : Int)) = True := eq_true (by omega)
        have g1 : bits .and .i64 (128 + c / 64 % 64) 63 = c / 64 % 64 := by rw [Bit.and63 (by omega) (by omega)]; omega
        have g2 : bits .or .i64 (c / 4096 * 64) (c / 64 % 64) = c / 64 := by rw [Bit.or6 (by omega) (by omega) (by omega) (by omega) (by omega)]; omega
        have g3 : bits .or .i64 (c / 4096 * 64) (bits .and .i64 (128 + c / 64 % 64) 63) = c / 64 := by rw [g1, g2]
        go_wp2
        go_roundg 1
        case measure => have := HK.out; omega
        case rel => exact ⟨2, c / 64, by go_num, by go_num, ⟨rfl, .inr (.inr (.inl ⟨rfl, rfl⟩))⟩, ⟨by first | exact HBW.out | exact bl_alloc HBW.out _ | exact bl_drewN (bl_alloc HBW.out _) _⟩⟩
      · have hn2 := hn.symm
        clear hn
        subst hn2
        have HK := Aside0.mk hk
        clear hk HI
        have a1 : ((2 : Int) < (s.size : Int)) = True := eq_true (by omega)
        have g1 : bits .and .i64 (128 + c % 64) 63 = c % 64 := by rw [Bit.and63 (by omega) (by omega)]; omega
        have g2 : bits .or .i64 (c / 64 * 64) (c % 64) = c := by rw [Bit.or6 (by omega) (by omega) (by omega) (by omega) (by omega)]; omega
        have g3 : bits .or .i64 (c / 64 * 64) (bits .and .i64 (128 + c % 64) 63) = c := by rw [g1, g2]
        go_wp2
        go_roundg 0
        case measure => have := HK.out; omega
        case rel => exact ⟨3, c, by go_num, by go_num, ⟨rfl, .inr (.inr (.inr (⟨rfl, rfl⟩)))⟩, ⟨by first | exact HBW.out | exact bl_alloc HBW.out _ | exact bl_drewN (bl_alloc HBW.out _) _⟩⟩
      · have hn2 := hn.symm
        clear hn
        subst hn2
        have HK := Aside0.mk hk
        clear hk HI
        have a1 : ((3 : Int) < (s.size : Int)) = False := eq_false (by omega)
        have a2 : (c == c) = true := by simp
        go_wp2_with (first
          | (go_at_call 41; (with_reducible refine (emendref1_Char.calls c true _ HCH.out).mono ?_); rintro e w2 ⟨rfl, ⟨nd, rfl⟩⟩)
          | (go_at_call 3; (with_reducible refine (runs_later w _ he ?_).mono ?_); (focus exact bl_drewN HBW.out _); rintro e w3 ⟨rfl, hc3⟩))
        go_ret
        exact ⟨rfl, hc3⟩
  · clear hin
    have d3 : (c ≥ 55296) = True := eq_true (by omega)
    have d4 : (c ≤ 57343) = False := eq_false (by omega)
    have d5 : (c ≥ 128) = True := eq_true (by omega)
    have d6 : (c ≥ 2048) = True := eq_true (by omega)
    have d7 : (c ≥ 65536) = False := eq_false (by omega)
    clear hb hsz
    go_enter Tryd.func11, Tryd.ntmps11
    go_wp2_with (first
      | (go_at_call 15; (with_reducible refine (one_bytes c _ _ ?_ _ _ HB.out).mono ?_); (focus exact one_C _ _); rintro e w1 ⟨rfl, hc1⟩))
    go_loopg [6, 7] 3 (fun kq v6 v7 w' => ∃ (i : Nat) (n : Int), v7 = .int .i64 i ∧ v6 = .int .i64 n ∧ Aside0 (kq = 3 - i ∧ ((i = 0 ∧ n = 0) ∨ (i = 1 ∧ n = c / 4096) ∨ (i = 2 ∧ n = c / 64) ∨ (i = 3 ∧ n = c))) ∧ Aside0 (Below w.heap.size w w'))
    case atStart => exact ⟨0, 0, rfl, rfl, ⟨rfl, .inl ⟨rfl, rfl⟩⟩, ⟨bl_trans (bl_alloc (Below.refl _ _) _) hc1⟩⟩
    case round =>
      obtain ⟨i, n, rfl, rfl, HI, HBW⟩ := hrel
      obtain ⟨hk, hcs⟩ := HI.out
      have hwz := HBW.out.size
      rcases hcs with ⟨rfl, hn⟩ | ⟨rfl, hn⟩ | ⟨rfl, hn⟩ | ⟨rfl, hn⟩
      · have hn2 := hn.symm
        clear hn
        subst hn2
        have HK := Aside0.mk hk
        clear hk HI
        have a1 : ((0 : Int) < (s.size : Int)) = True := eq_true (by omega)
        have g0 : bits .and .i64 (224 + c / 4096) 15 = c / 4096 := by rw [Bit.and15 (by omega) (by omega)]; omega
        go_wp2
        go_quiet (fail)
        go_wp2
        go_roundg 2
        case measure => have := HK.out; omega
        case rel => exact ⟨1, c / 4096, by go_num, by go_num, ⟨rfl, .inr (.inl ⟨rfl, rfl⟩)⟩, ⟨by first | exact HBW.out | exact bl_alloc HBW.out _ | exact bl_drewN (bl_alloc HBW.out _) _⟩⟩
      · have hn2 := hn.symm
        clear hn
        subst hn2
        have HK := Aside0.mk hk
        clear hk HI
        have a1 : ((1 : Int) < (s.size : Int)) = True := eq_true (by omega)
        have g1 : bits .and .i64 (128 + c / 64 % 64) 63 = c / 64 % 64 := by rw [Bit.and63 (by omega) (by omega)]; omega
        have g2 : bits .or .i64 (c / 4096 * 64) (c / 64 % 64) = c / 64 := by rw [Bit.or6 (by omega) (by omega) (by omega) (by omega) (by omega)]; omega
        have g3 : bits .or .i64 (c / 4096 * 64) (bits .and .i64 (128 + c / 64 % 64) 63) = c / 64 := by rw [g1, g2]
        go_wp2
        go_roundg 1
        case measure => have := HK.out; omega
        case rel => exact ⟨2, c / 64, by go_num, by go_num, ⟨rfl, .inr (.inr (.inl ⟨rfl, rfl⟩))⟩, ⟨by first | exact HBW.out | exact bl_alloc HBW.out _ | exact bl_drewN (bl_alloc HBW.out _) _⟩⟩
      · have hn2 := hn.symm
        clear hn
        subst hn2
        have HK := Aside0.mk hk
        clear hk HI
        have a1 : ((2 : Int) < (s.size : Int)) = True := eq_true (by omega)
        have g1 : bits .and .i64 (128 + c % 64) 63 = c % 64 := by rw [Bit.and63 (by omega) (by omega)]; omega
        have g2 : bits .or .i64 (c / 64 * 64) (c % 64) = c := by rw [Bit.or6 (by omega) (by omega) (by omega) (by omega) (by omega)]; omega
        have g3 : bits .or .i64 (c / 64 * 64) (bits .and .i64 (128 + c % 64) 63) = c := by rw [g1, g2]
        go_wp2
        go_roundg 0
        case measure => have := HK.out; omega
        case rel => exact ⟨3, c, by go_num, by go_num, ⟨rfl, .inr (.inr (.inr (⟨rfl, rfl⟩)))⟩, ⟨by first | exact HBW.out | exact bl_alloc HBW.out _ | exact bl_drewN (bl_alloc HBW.out _) _⟩⟩
      · have hn2 := hn.symm
        clear hn
        subst hn2
        have HK := Aside0.mk hk
        clear hk HI
        have a1 : ((3 : Int) < (s.size : Int)) = False := eq_false (by omega)
        have a2 : (c == c) = true := by simp
        go_wp2_with (first
          | (go_at_call 41; (with_reducible refine (emendref1_Char.calls c true _ HCH.out).mono ?_); rintro e w2 ⟨rfl, ⟨nd, rfl⟩⟩)
          | (go_at_call 3; (with_reducible refine (runs_later w _ he ?_).mono ?_); (focus exact bl_drewN HBW.out _); rintro e w3 ⟨rfl, hc3⟩))
        go_ret
        exact ⟨rfl, hc3⟩

set_option maxHeartbeats 4000000 in
set_option maxRecDepth 100000 in
theorem sizes_4 (c : Int) (w : World) (he : Env w) (hc : charB c = true) (h0 : 65536 ≤ c) (h1 : c ≤ 1114111) :
    Calls Tryd.prog 11 #[.int .i64 c] w fun e w' => e = .returned (.bool true) ∧ Below w.heap.size w w' := by
  have hE : encI c = [240 + c / 262144, 128 + c / 4096 % 64, 128 + c / 64 % 64, 128 + c % 64] := by unfold encI; rw [if_neg (by omega), if_neg (by omega), if_neg (by omega)]
  have hchr := char_f c
  rw [hc] at hchr
  have HCH := Aside0.mk hchr
  have hin := (charB_spec c).1 hc
  have hb : bytesS [c] = (strOfNums [240 + c / 262144, 128 + c / 4096 % 64, 128 + c / 64 % 64, 128 + c % 64], 0) := by unfold bytesS; rw [if_pos (by simp [hc])]; rw [show encs [c] = encI c ++ [] from rfl, hE]; rfl
  have hsz : (strOfNums [240 + c / 262144, 128 + c / 4096 % 64, 128 + c / 64 % 64, 128 + c % 64]).size = 4 := by rw [strOfNums_size]; rfl
  have hb0 : ∀ h : 0 < (strOfNums [240 + c / 262144, 128 + c / 4096 % 64, 128 + c / 64 % 64, 128 + c % 64]).size, (((strOfNums [240 + c / 262144, 128 + c / 4096 % 64, 128 + c / 64 % 64, 128 + c % 64])[0]'h).toNat : Int) = 240 + c / 262144 := fun h => (str_at _ 0 h (by simp) (by simp only [List.getElem_cons_succ, List.getElem_cons_zero]; omega) (by simp only [List.getElem_cons_succ, List.getElem_cons_zero]; omega)).trans rfl
  have hb1 : ∀ h : 1 < (strOfNums [240 + c / 262144, 128 + c / 4096 % 64, 128 + c / 64 % 64, 128 + c % 64]).size, (((strOfNums [240 + c / 262144, 128 + c / 4096 % 64, 128 + c / 64 % 64, 128 + c % 64])[1]'h).toNat : Int) = 128 + c / 4096 % 64 := fun h => (str_at _ 1 h (by simp) (by simp only [List.getElem_cons_succ, List.getElem_cons_zero]; omega) (by simp only [List.getElem_cons_succ, List.getElem_cons_zero]; omega)).trans rfl
  have hb2 : ∀ h : 2 < (strOfNums [240 + c / 262144, 128 + c / 4096 % 64, 128 + c / 64 % 64, 128 + c % 64]).size, (((strOfNums [240 + c / 262144, 128 + c / 4096 % 64, 128 + c / 64 % 64, 128 + c % 64])[2]'h).toNat : Int) = 128 + c / 64 % 64 := fun h => (str_at _ 2 h (by simp) (by simp only [List.getElem_cons_succ, List.getElem_cons_zero]; omega) (by simp only [List.getElem_cons_succ, List.getElem_cons_zero]; omega)).trans rfl
  have hb3 : ∀ h : 3 < (strOfNums [240 + c / 262144, 128 + c / 4096 % 64, 128 + c / 64 % 64, 128 + c % 64]).size, (((strOfNums [240 + c / 262144, 128 + c / 4096 % 64, 128 + c / 64 % 64, 128 + c % 64])[3]'h).toNat : Int) = 128 + c % 64 := fun h => (str_at _ 3 h (by simp) (by simp only [List.getElem_cons_succ, List.getElem_cons_zero]; omega) (by simp only [List.getElem_cons_succ, List.getElem_cons_zero]; omega)).trans rfl
  obtain ⟨s, hs⟩ : ∃ s, strOfNums [240 + c / 262144, 128 + c / 4096 % 64, 128 + c / 64 % 64, 128 + c % 64] = s := ⟨_, rfl⟩
  rw [hs] at hb hsz
  have q0 : ∀ h : 0 < s.size, ((s[0]'h).toNat : Int) = 240 + c / 262144 := by subst hs; exact hb0
  have q1 : ∀ h : 1 < s.size, ((s[1]'h).toNat : Int) = 128 + c / 4096 % 64 := by subst hs; exact hb1
  have q2 : ∀ h : 2 < s.size, ((s[2]'h).toNat : Int) = 128 + c / 64 % 64 := by subst hs; exact hb2
  have q3 : ∀ h : 3 < s.size, ((s[3]'h).toNat : Int) = 128 + c % 64 := by subst hs; exact hb3
  clear hb0 hb1 hb2 hb3 hs hE hchr hc
  have HB := Aside0.mk hb
  have HSZ := Aside0.mk hsz
  have c0 : ((s.size : Int)) = 4 := by omega
  have d1 : (c < 0) = False := eq_false (by omega)
  have d2 : (c > 1114111) = False := eq_false (by omega)
  have d3 : (c ≥ 55296) = True := eq_true (by omega)
  have d4 : (c ≤ 57343) = False := eq_false (by omega)
  have d5 : (c ≥ 128) = True := eq_true (by omega)
  have d6 : (c ≥ 2048) = True := eq_true (by omega)
  have d7 : (c ≥ 65536) = True := eq_true (by omega)
  clear hb hsz
  go_enter Tryd.func11, Tryd.ntmps11
  go_wp2_with (first
    | (go_at_call 15; (with_reducible refine (one_bytes c _ _ ?_ _ _ HB.out).mono ?_); (focus exact one_C _ _); rintro e w1 ⟨rfl, hc1⟩))
  go_loopg [6, 7] 4 (fun kq v6 v7 w' => ∃ (i : Nat) (n : Int), v7 = .int .i64 i ∧ v6 = .int .i64 n ∧ Aside0 (kq = 4 - i ∧ ((i = 0 ∧ n = 0) ∨ (i = 1 ∧ n = c / 262144) ∨ (i = 2 ∧ n = c / 4096) ∨ (i = 3 ∧ n = c / 64) ∨ (i = 4 ∧ n = c))) ∧ Aside0 (Below w.heap.size w w'))
  case atStart => exact ⟨0, 0, rfl, rfl, ⟨rfl, .inl ⟨rfl, rfl⟩⟩, ⟨bl_trans (bl_alloc (Below.refl _ _) _) hc1⟩⟩
  case round =>
    obtain ⟨i, n, rfl, rfl, HI, HBW⟩ := hrel
    obtain ⟨hk, hcs⟩ := HI.out
    have hwz := HBW.out.size
    rcases hcs with ⟨rfl, hn⟩ | ⟨rfl, hn⟩ | ⟨rfl, hn⟩ | ⟨rfl, hn⟩ | ⟨rfl, hn⟩
    · have hn2 := hn.symm
      clear hn
      subst hn2
      have HK := Aside0.mk hk
      clear hk HI
      have a1 : ((0 : Int) < (s.size : Int)) = True := eq_true (by omega)
      have g0 : bits .and .i64 (240 + c / 262144) 7 = c / 262144 := by rw [Bit.and7 (by omega) (by omega)]; omega
      go_wp2
      go_quiet (fail)
      go_wp2
      go_roundg 3
      case measure => have := HK.out; omega
      case rel => exact ⟨1, c / 262144, by go_num, by go_num, ⟨rfl, .inr (.inl ⟨rfl, rfl⟩)⟩, ⟨by first | exact HBW.out | exact bl_alloc HBW.out _ | exact bl_drewN (bl_alloc HBW.out _) _⟩⟩
    · have hn2 := hn.symm
      clear hn
      subst hn2
      have HK := Aside0.mk hk
      clear hk HI
      have a1 : ((1 : Int) < (s.size : Int)) = True := eq_true (by omega)
      have g1 : bits .and .i64 (128 + c / 4096 % 64) 63 = c / 4096 % 64 := by rw [Bit.and63 (by omega) (by omega)]; omega
      have g2 : bits .or .i64 (c / 262144 * 64) (c / 4096 % 64) = c / 4096 := by rw [Bit.or6 (by omega) (by omega) (by omega) (by omega) (by omega)]; omega
      have g3 : bits .or .i64 (c / 262144 * 64) (bits .and .i64 (128 + c / 4096 % 64) 63) = c / 4096 := by rw [g1, g2]
      go_wp2
      go_roundg 2
      case measure => have := HK.out; omega
      case rel => exact ⟨2, c / 4096, by go_num, by go_num, ⟨rfl, .inr (.inr (.inl ⟨rfl, rfl⟩))⟩, ⟨by first | exact HBW.out | exact bl_alloc HBW.out _ | exact bl_drewN (bl_alloc HBW.out _) _⟩⟩
    · have hn2 := hn.symm
      clear hn
      subst hn2
      have HK := Aside0.mk hk
      clear hk HI
      have a1 : ((2 : Int) < (s.size : Int)) = True := eq_true (by omega)
      have g1 : bits .and .i64 (128 + c / 64 % 64) 63 = c / 64 % 64 := by rw [Bit.and63 (by omega) (by omega)]; omega
      have g2 : bits .or .i64 (c / 4096 * 64) (c / 64 % 64) = c / 64 := by rw [Bit.or6 (by omega) (by omega) (by omega) (by omega) (by omega)]; omega
      have g3 : bits .or .i64 (c / 4096 * 64) (bits .and .i64 (128 + c / 64 % 64) 63) = c / 64 := by rw [g1, g2]
      go_wp2
      go_roundg 1
      case measure => have := HK.out; omega
      case rel => exact ⟨3, c / 64, by go_num, by go_num, ⟨rfl, .inr (.inr (.inr (.inl ⟨rfl, rfl⟩)))⟩, ⟨by first | exact HBW.out | exact bl_alloc HBW.out _ | exact bl_drewN (bl_alloc HBW.out _) _⟩⟩
    · have hn2 := hn.symm
      clear hn
      subst hn2
      have HK := Aside0.mk hk
      clear hk HI
      have a1 : ((3 : Int) < (s.size : Int)) = True := eq_true (by omega)
      have g1 : bits .and .i64 (128 + c % 64) 63 = c % 64 := by rw [Bit.and63 (by omega) (by omega)]; omega
      have g2 : bits .or .i64 (c / 64 * 64) (c % 64) = c := by rw [Bit.or6 (by omega) (by omega) (by omega) (by omega) (by omega)]; omega
      have g3 : bits .or .i64 (c / 64 * 64) (bits .and .i64 (128 + c % 64) 63) = c := by rw [g1, g2]
      go_wp2
      go_roundg 0
      case measure => have := HK.out; omega
      case rel => exact ⟨4, c, by go_num, by go_num, ⟨rfl, .inr (.inr (.inr (.inr (⟨rfl, rfl⟩))))⟩, ⟨by first | exact HBW.out | exact bl_alloc HBW.out _ | exact bl_drewN (bl_alloc HBW.out _) _⟩⟩
    · have hn2 := hn.symm
      clear hn
      subst hn2
      have HK := Aside0.mk hk
      clear hk HI
      have a1 : ((4 : Int) < (s.size : Int)) = False := eq_false (by omega)
      have a2 : (c == c) = true := by simp
      go_wp2_with (first
        | (go_at_call 41; (with_reducible refine (emendref1_Char.calls c true _ HCH.out).mono ?_); rintro e w2 ⟨rfl, ⟨nd, rfl⟩⟩)
        | (go_at_call 3; (with_reducible refine (runs_later w _ he ?_).mono ?_); (focus exact bl_drewN HBW.out _); rintro e w3 ⟨rfl, hc3⟩))
      go_ret
      exact ⟨rfl, hc3⟩
end Go.Proofs.YtgdfgahpjebcaaaDoor
