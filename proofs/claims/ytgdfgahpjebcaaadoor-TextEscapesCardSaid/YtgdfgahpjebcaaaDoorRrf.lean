/-
  The reference's Reference, walked. PRINTED by gen_rrf.py.
-/
import Derived.Test.YtgdfgahpjebcaaaDoorBkx
import Derived.BigQuiet
set_option linter.unusedSimpArgs false
set_option linter.unusedVariables false
namespace Go.Proofs.YtgdfgahpjebcaaaDoor
open Go.RowKit Go.Proofs.YtgdfgahpjebcaaaDoorW.PrintWords Go.Proofs.YtgdfgahpjebcaaaDoor.PT

theorem rhex_f (k : Nat) (c : Int) : emendref1_Hex.f (k + 2) c = some (valI c) := by
  simp only [emendref1_Hex.f, emendref1_Hex.j0, emendref1_Hex.j1, valI, decide_eq_true_eq, Bool.false_eq_true, if_false]
  repeat' split
  all_goals (first | rfl | omega | (congr 1; omega) | (exfalso; omega))
theorem rxml_f' (c : Int) : emendref1_XML.f c = some (xmlB c) := xml_f c

/-! ### Plain -/
theorem eq_pfx (s p : ByteArray) (a : Nat) (h : a + p.size ≤ s.size) : ((s.extract a (a + p.size)).toList == p.toList) = pfxB (s.extract a s.size) p := by
  unfold pfxB
  rw [Lib.toList_data, Lib.toList_data, ByteArray.data_extract, ByteArray.data_extract, Array.toList_extract, Array.toList_extract]
  have hl := data_length s
  show (((s.data.toList.drop a).take (a + p.size - a)) == p.data.toList) = ((((s.data.toList.drop a).take (s.size - a)).take p.size) == p.data.toList)
  rw [List.take_take, show a + p.size - a = p.size by omega, Nat.min_eq_left (by omega)]
theorem no_pfx (s p : ByteArray) (a : Nat) (h : ¬ a + p.size ≤ s.size) (hp : 0 < p.size) : pfxB (s.extract a s.size) p = false := by
  rw [Bool.eq_false_iff]
  intro hb
  have := pfxB_size _ _ hb
  have hz : (s.extract a s.size).size = s.size - a := by simp
  rw [hz] at this
  omega
theorem pfx_split (t p : ByteArray) (h : pfxB t p = true) : ∃ tl, bytesOf t = bytesOf p ++ tl := by
  rw [pfxB_bytes] at h
  have := eq_of_beq h
  exact ⟨(bytesOf t).drop p.size, by rw [← this, List.take_append_drop]⟩
theorem name_num (t : ByteArray) (j : Nat) (h : pfxB t (nameAt j).1 = true) : pfxB t ⟨#[38, 35]⟩ = false := by
  obtain ⟨tl, hb⟩ := pfx_split t _ h
  have hn : 2 ≤ (bytesOf (nameAt j).1).length ∧ (bytesOf (nameAt j).1).take 2 ≠ (bytesOf ⟨#[38, 35]⟩).take 2 := by
    match j with
    | 0 => exact ⟨by decide, by decide⟩
    | 1 => exact ⟨by decide, by decide⟩
    | 2 => exact ⟨by decide, by decide⟩
    | 3 => exact ⟨by decide, by decide⟩
    | n + 4 => exact ⟨by simp only [nameAt]; decide, by simp only [nameAt]; decide⟩
  exact pfx_ne t _ _ tl 2 hb (by decide) hn.1 hn.2
theorem pfx_two' (s : ByteArray) (a : Nat) (h38 : bt s (a : Int) = 38) (ha : a + 2 ≤ s.size) : pfxB (s.extract a s.size) ⟨#[38, 35]⟩ = decide (bt s ((a : Int) + 1) = 35) := by
  have d0 := drop_step s a (by omega)
  have d1 := drop_step s (a + 1) (by omega)
  have e1 : ((a + 1 : Nat) : Int) = (a : Int) + 1 := by omega
  rw [pfxB_bytes, bytesOf_extract, d0, d1, h38, e1]
  have e2 : (⟨#[38, 35]⟩ : ByteArray).size = 2 := rfl
  have e3 : bytesOf (⟨#[38, 35]⟩ : ByteArray) = [38, 35] := by decide
  rw [e2, e3]
  simp only [List.take_succ_cons, List.take_zero]
  by_cases hc : bt s ((a : Int) + 1) = 35
  · rw [hc]; decide
  · simp [hc]
/-- What the numbers of a reference come to. -/
def numR (RN : Int × Int) : Int × Int := if 0 < RN.2 then (RN.1, RN.2 + 2) else (0, 0)
theorem refI_short (s : ByteArray) (a : Nat) (h38 : bt s (a : Int) = 38) (ha : a < s.size) (h : s.size ≤ a + 2) (h0 : nameI (s.extract a s.size) 5 0 = (0, 0)) : refI (s.extract a s.size) = (0, 0) := by
  have hz : (s.extract a s.size).size = s.size - a := by simp
  have hu : ((s.extract a s.size).extract 2 (s.extract a s.size).size).size = 0 := by simp; omega
  have hn : ∀ u : ByteArray, u.size = 0 → numI u = (0, 0) := by
    intro u hu
    unfold numI
    rw [if_neg (by omega), nrun, if_neg (by omega), if_pos (Or.inl rfl)]
  unfold refI
  split
  · rw [hn _ hu]; rfl
  · exact h0
theorem refI_no (s : ByteArray) (a : Nat) (h38 : bt s (a : Int) = 38) (h : a + 2 ≤ s.size) (h1 : bt s ((a : Int) + 1) ≠ 35) : refI (s.extract a s.size) = nameI (s.extract a s.size) 5 0 := by
  have hp := pfx_two' s a h38 h
  unfold refI
  rw [if_neg (by rw [hp]; simp [h1])]
theorem refI_num (s : ByteArray) (a : Nat) (h38 : bt s (a : Int) = 38) (h : a + 2 ≤ s.size) (h1 : bt s ((a : Int) + 1) = 35) : refI (s.extract a s.size) = numR (numI ((s.extract a s.size).extract 2 (s.extract a s.size).size)) := by
  have hp := pfx_two' s a h38 h
  unfold refI numR
  rw [if_pos (by rw [hp]; simp [h1])]
theorem refI_name (s : ByteArray) (a j : Nat) (h : pfxB (s.extract a s.size) (nameAt j).1 = true) (hr : nameI (s.extract a s.size) 5 0 = nameI (s.extract a s.size) (5 - j) j) (hj : j < 5) : refI (s.extract a s.size) = ((nameAt j).2, ((nameAt j).1.size : Int)) := by
  have hp := name_num _ j h
  unfold refI
  rw [if_neg (by rw [hp]; decide), hr, show 5 - j = (4 - j) + 1 by omega, nameI, if_pos h]
theorem nameI_next (t : ByteArray) (j : Nat) (hj : j < 5) (h : pfxB t (nameAt j).1 = false) : nameI t (5 - j) j = nameI t (5 - (j + 1)) (j + 1) := by
  rw [show 5 - j = (4 - j) + 1 by omega, nameI, if_neg (by rw [h]; decide), show 5 - (j + 1) = 4 - j by omega]
theorem nrun_exit0 (u : ByteArray) (B : Int) (F k : Nat) (r : Int) (RN : Int × Int) (hk : F ≤ k) (hd : (k ≤ F + 7 ∧ nrun u B F (F + 9 - k) k r = RN) ∨ (k = F + 8 ∧ RN = (0, 0)))
    (hnd : k = F + 8 ∨ ¬ (k < u.size ∧ 0 ≤ valI (bt u k) ∧ valI (bt u k) < B)) (hz : k = F + 8 ∨ k = F ∨ k = u.size ∨ bt u k ≠ 59 ∨ xmlB r = false) : RN = (0, 0) := by
  rcases hd with ⟨h7, hd⟩ | ⟨_, hd⟩
  · rw [← hd, show F + 9 - k = (F + 8 - k) + 1 by omega, nrun, if_neg (hnd.resolve_left (by omega)), if_pos (hz.resolve_left (by omega))]
  · exact hd
theorem nrun_exit1 (u : ByteArray) (B : Int) (F k : Nat) (r : Int) (RN : Int × Int) (hk : F ≤ k) (hd : (k ≤ F + 7 ∧ nrun u B F (F + 9 - k) k r = RN) ∨ (k = F + 8 ∧ RN = (0, 0)))
    (hnd : ¬ (k < u.size ∧ 0 ≤ valI (bt u k) ∧ valI (bt u k) < B)) (h8 : k ≠ F + 8) (hF : k ≠ F) (hu : k ≠ u.size) (h59 : bt u k = 59) (hx : xmlB r = true) : RN = (r, (k : Int) + 1) := by
  rcases hd with ⟨h7, hd⟩ | ⟨h, _⟩
  · rw [← hd, show F + 9 - k = (F + 8 - k) + 1 by omega, nrun, if_neg hnd, if_neg (by rw [h59, hx]; rintro (h | h | h | h) <;> first | exact hF h | exact hu h | exact h rfl | cases h)]
  · exact absurd h h8
theorem nrun_next (u : ByteArray) (B : Int) (F k : Nat) (r v : Int) (RN : Int × Int) (hk : F ≤ k) (h8 : k ≠ F + 8) (hd : (k ≤ F + 7 ∧ nrun u B F (F + 9 - k) k r = RN) ∨ (k = F + 8 ∧ RN = (0, 0)))
    (hv : valI (bt u k) = v) (hdig : k < u.size ∧ 0 ≤ v ∧ v < B) : (k + 1 ≤ F + 7 ∧ nrun u B F (F + 9 - (k + 1)) (k + 1) (r * B + v) = RN) ∨ (k + 1 = F + 8 ∧ RN = (0, 0)) := by
  rcases hd with ⟨h7, hd⟩ | ⟨h, _⟩
  · rw [show F + 9 - k = (F + 8 - k) + 1 by omega, nrun, if_pos (by rw [hv]; exact hdig), hv] at hd
    by_cases h : k = F + 7
    · rw [if_pos h] at hd; exact .inr ⟨by omega, hd.symm⟩
    · rw [if_neg h] at hd
      refine .inl ⟨by omega, ?_⟩
      rw [show F + 9 - (k + 1) = F + 8 - k by omega]; exact hd
  · exact absurd h h8
theorem pow_le8 (j : Nat) (h : j ≤ 8) : (16 : Nat) ^ j ≤ 4294967296 := Nat.le_trans (Nat.pow_le_pow_right (by decide) h) (by decide)
theorem ret_two {a b c d : Int} (h : a = c) (k : b = d) : Ending.returned (.tuple #[.int .i64 a, .int .i64 b]) = .returned (.tuple #[.int .i64 c, .int .i64 d]) := by rw [h, k]
theorem numR_0 : numR (0, 0) = (0, 0) := rfl
theorem numR_1 (r : Int) (k : Nat) : numR (r, (k : Int) + 1) = (r, (k : Int) + 1 + 2) := by unfold numR; rw [if_pos (by show 0 < (k : Int) + 1; omega)]
theorem bt_u (s : ByteArray) (a k : Nat) (h : a + 2 ≤ s.size) : bt ((s.extract a s.size).extract 2 (s.extract a s.size).size) (k : Int) = bt s ((a + 2 + k : Nat) : Int) := by
  have hz : (s.extract a s.size).size = s.size - a := by simp
  have e := bt_extract (s.extract a s.size) 2 (k : Int) (by omega) (by omega)
  rw [e, bt_extract s a _ (by omega) (by omega)]
  exact congrArg (bt s) (by omega)
theorem size_u (s : ByteArray) (a : Nat) : ((s.extract a s.size).extract 2 (s.extract a s.size).size).size = s.size - (a + 2) := by
  have hz : (s.extract a s.size).size = s.size - a := by simp
  simp; omega
abbrev namesC : Array Value := #[.string ⟨#[38, 97, 109, 112, 59]⟩, .string ⟨#[38, 108, 116, 59]⟩, .string ⟨#[38, 103, 116, 59]⟩, .string ⟨#[38, 113, 117, 111, 116, 59]⟩, .string ⟨#[38, 97, 112, 111, 115, 59]⟩]
abbrev charsC : Array Value := #[.int .i64 38, .int .i64 60, .int .i64 62, .int .i64 34, .int .i64 39]
theorem cellN {w : World} {g : Nat} {cs : Array Value} {t : TypeId} (h : w.heap[g]? = some (.cells cs t (0, 0))) (j : Nat) (v : Value) (hv : cs[j]? = some v) : w.cell? ⟨g, j, none⟩ = some v := (Lib.cell_of_heap h j).trans hv
theorem keepH {w w' : World} {B k : Nat} {o : Obj} (h : w.heap[k]? = some o) (hb : Below w.heap.size w w') : w'.heap[k]? = some o := (hb.block k (by rcases Nat.lt_or_ge k w.heap.size with h1 | h1; exact h1; rw [Array.getElem?_eq_none h1] at h; cases h)).trans h


set_option maxHeartbeats 16000000 in
set_option maxRecDepth 100000 in
theorem rref_short (s : ByteArray) (a : Nat) (w : World) (hs : s.size ≤ 2000000) (ha : a < s.size) (h38 : bt s (a : Int) = 38) (hK : s.size ≤ a + 2) :
    Calls Tryd.prog 62 #[.string s, .int .i64 (a : Int)] w fun e w' => e = .returned (.tuple #[.int .i64 (refI (s.extract a s.size)).1, .int .i64 (refI (s.extract a s.size)).2]) ∧ Below w.heap.size w w' := by
  obtain ⟨R, hR⟩ : ∃ R, refI (s.extract a s.size) = R := ⟨_, rfl⟩
  have hRN : ∀ j, j < 5 → nameI (s.extract a s.size) 5 0 = nameI (s.extract a s.size) (5 - j) j → pfxB (s.extract a s.size) (nameAt j).1 = true → R = ((nameAt j).2, ((nameAt j).1.size : Int)) := fun j h1 h2 h3 => by rw [← hR]; exact refI_name s a j h3 h2 h1
  have hend : nameI (s.extract a s.size) 5 0 = (0, 0) → R = (0, 0) := fun h => by rw [← hR]; exact refI_short s a h38 ha hK h
  have q1 : ((a : Int) + 2 ≥ (s.size : Int)) = True := eq_true (by omega)
  have HEND := Aside0.mk hend
  clear hend
  rw [hR]
  have HRN := Aside0.mk hRN
  have p0 : (0 : Int) ≤ (a : Int) := by omega
  clear hRN hR h38
  go_enter Tryd.func62, Tryd.ntmps62
  go_wp2
  go_loopg [8] 5 (fun kq v8 w' => ∃ j : Nat, v8 = .int .i64 j ∧ Aside0 (kq = 5 - j ∧ j ≤ 5 ∧ nameI (s.extract a s.size) 5 0 = nameI (s.extract a s.size) (5 - j) j) ∧ Aside0 (w'.heap[w.heap.size]? = some (.cells namesC 9 (0, 0))) ∧ Aside0 (w'.heap[w.heap.size + 1]? = some (.cells charsC 3 (0, 0))) ∧ Aside0 (Below w.heap.size w w'))
  case atStart => exact ⟨0, rfl, ⟨rfl, by omega, rfl⟩, ⟨keepH (B := 0) (heap_alloc_new w _) (bl_alloc (Below.refl _ _) _)⟩, ⟨by have := heap_alloc_new (w.alloc (.cells namesC 9)) (.cells charsC 3); rw [World.size_alloc] at this; exact this⟩, ⟨bl_alloc (bl_alloc (Below.refl _ _) _) _⟩⟩
  case round =>
    obtain ⟨j, rfl, HI, HN, HC, HB⟩ := hrel
    obtain ⟨hk, hj5, hnm⟩ := HI.out
    have HK := Aside0.mk hk
    have HNM := Aside0.mk hnm
    have hj : j = 0 ∨ j = 1 ∨ j = 2 ∨ j = 3 ∨ j = 4 ∨ j = 5 := by omega
    clear HI hk hnm
    rcases hj with rfl | rfl | rfl | rfl | rfl | rfl
    · have m0 := cellN HN.out 0 (.string ⟨#[38, 97, 109, 112, 59]⟩) rfl
      have e0 : nameAt 0 = (⟨#[38, 97, 109, 112, 59]⟩, 38) := rfl
      by_cases hg : a + 5 ≤ s.size
      · have g1 : decide ((a : Int) + 5 ≤ (s.size : Int)) = true := decide_eq_true (by omega)
        have g2 : IntKind.i64.wrap ((a : Int) + 5) = (a : Int) + 5 := IntWalk.i64_in _ (by omega)
        have g3 : ((a : Int) + 5).toNat = a + 5 := by omega
        have g4 : (0 : Int) ≤ (a : Int) + 5 := by omega
        have g5 : (a : Int) ≤ (a : Int) + 5 := by omega
        have g6 : (a : Int) + 5 ≤ (s.size : Int) := by omega
        have hep : ((s.extract a (a + 5)).toList == ([38, 97, 109, 112, 59] : List UInt8)) = pfxB (s.extract a s.size) (nameAt 0).1 := by have h := eq_pfx s ⟨#[38, 97, 109, 112, 59]⟩ a hg; rw [show (⟨#[38, 97, 109, 112, 59]⟩ : ByteArray).toList = [38, 97, 109, 112, 59] by rw [Lib.toList_data]] at h; exact h
        exact absurd hg (by omega)
      · have g1 : decide ((a : Int) + 5 ≤ (s.size : Int)) = false := decide_eq_false (by omega)
        have g2 : IntKind.i64.wrap ((a : Int) + 5) = (a : Int) + 5 := IntWalk.i64_in _ (by omega)
        have HV := Aside0.mk (HNM.out.trans (nameI_next _ 0 (by decide) (no_pfx s ⟨#[38, 97, 109, 112, 59]⟩ a hg (by decide))))
        clear e0
        go_wp2
        go_quiet (fail)
        go_wp2
        go_roundg 4
        case measure => have := HK.out; omega
        case rel => exact ⟨1, by go_num, ⟨rfl, by omega, HV.out⟩, ⟨HN.out⟩, ⟨HC.out⟩, ⟨bl_drewN HB.out _⟩⟩
    · have m0 := cellN HN.out 1 (.string ⟨#[38, 108, 116, 59]⟩) rfl
      have e0 : nameAt 1 = (⟨#[38, 108, 116, 59]⟩, 60) := rfl
      by_cases hg : a + 4 ≤ s.size
      · have g1 : decide ((a : Int) + 4 ≤ (s.size : Int)) = true := decide_eq_true (by omega)
        have g2 : IntKind.i64.wrap ((a : Int) + 4) = (a : Int) + 4 := IntWalk.i64_in _ (by omega)
        have g3 : ((a : Int) + 4).toNat = a + 4 := by omega
        have g4 : (0 : Int) ≤ (a : Int) + 4 := by omega
        have g5 : (a : Int) ≤ (a : Int) + 4 := by omega
        have g6 : (a : Int) + 4 ≤ (s.size : Int) := by omega
        have hep : ((s.extract a (a + 4)).toList == ([38, 108, 116, 59] : List UInt8)) = pfxB (s.extract a s.size) (nameAt 1).1 := by have h := eq_pfx s ⟨#[38, 108, 116, 59]⟩ a hg; rw [show (⟨#[38, 108, 116, 59]⟩ : ByteArray).toList = [38, 108, 116, 59] by rw [Lib.toList_data]] at h; exact h
        exact absurd hg (by omega)
      · have g1 : decide ((a : Int) + 4 ≤ (s.size : Int)) = false := decide_eq_false (by omega)
        have g2 : IntKind.i64.wrap ((a : Int) + 4) = (a : Int) + 4 := IntWalk.i64_in _ (by omega)
        have HV := Aside0.mk (HNM.out.trans (nameI_next _ 1 (by decide) (no_pfx s ⟨#[38, 108, 116, 59]⟩ a hg (by decide))))
        clear e0
        go_wp2
        go_quiet (fail)
        go_wp2
        go_roundg 3
        case measure => have := HK.out; omega
        case rel => exact ⟨2, by go_num, ⟨rfl, by omega, HV.out⟩, ⟨HN.out⟩, ⟨HC.out⟩, ⟨bl_drewN HB.out _⟩⟩
    · have m0 := cellN HN.out 2 (.string ⟨#[38, 103, 116, 59]⟩) rfl
      have e0 : nameAt 2 = (⟨#[38, 103, 116, 59]⟩, 62) := rfl
      by_cases hg : a + 4 ≤ s.size
      · have g1 : decide ((a : Int) + 4 ≤ (s.size : Int)) = true := decide_eq_true (by omega)
        have g2 : IntKind.i64.wrap ((a : Int) + 4) = (a : Int) + 4 := IntWalk.i64_in _ (by omega)
        have g3 : ((a : Int) + 4).toNat = a + 4 := by omega
        have g4 : (0 : Int) ≤ (a : Int) + 4 := by omega
        have g5 : (a : Int) ≤ (a : Int) + 4 := by omega
        have g6 : (a : Int) + 4 ≤ (s.size : Int) := by omega
        have hep : ((s.extract a (a + 4)).toList == ([38, 103, 116, 59] : List UInt8)) = pfxB (s.extract a s.size) (nameAt 2).1 := by have h := eq_pfx s ⟨#[38, 103, 116, 59]⟩ a hg; rw [show (⟨#[38, 103, 116, 59]⟩ : ByteArray).toList = [38, 103, 116, 59] by rw [Lib.toList_data]] at h; exact h
        exact absurd hg (by omega)
      · have g1 : decide ((a : Int) + 4 ≤ (s.size : Int)) = false := decide_eq_false (by omega)
        have g2 : IntKind.i64.wrap ((a : Int) + 4) = (a : Int) + 4 := IntWalk.i64_in _ (by omega)
        have HV := Aside0.mk (HNM.out.trans (nameI_next _ 2 (by decide) (no_pfx s ⟨#[38, 103, 116, 59]⟩ a hg (by decide))))
        clear e0
        go_wp2
        go_quiet (fail)
        go_wp2
        go_roundg 2
        case measure => have := HK.out; omega
        case rel => exact ⟨3, by go_num, ⟨rfl, by omega, HV.out⟩, ⟨HN.out⟩, ⟨HC.out⟩, ⟨bl_drewN HB.out _⟩⟩
    · have m0 := cellN HN.out 3 (.string ⟨#[38, 113, 117, 111, 116, 59]⟩) rfl
      have e0 : nameAt 3 = (⟨#[38, 113, 117, 111, 116, 59]⟩, 34) := rfl
      by_cases hg : a + 6 ≤ s.size
      · have g1 : decide ((a : Int) + 6 ≤ (s.size : Int)) = true := decide_eq_true (by omega)
        have g2 : IntKind.i64.wrap ((a : Int) + 6) = (a : Int) + 6 := IntWalk.i64_in _ (by omega)
        have g3 : ((a : Int) + 6).toNat = a + 6 := by omega
        have g4 : (0 : Int) ≤ (a : Int) + 6 := by omega
        have g5 : (a : Int) ≤ (a : Int) + 6 := by omega
        have g6 : (a : Int) + 6 ≤ (s.size : Int) := by omega
        have hep : ((s.extract a (a + 6)).toList == ([38, 113, 117, 111, 116, 59] : List UInt8)) = pfxB (s.extract a s.size) (nameAt 3).1 := by have h := eq_pfx s ⟨#[38, 113, 117, 111, 116, 59]⟩ a hg; rw [show (⟨#[38, 113, 117, 111, 116, 59]⟩ : ByteArray).toList = [38, 113, 117, 111, 116, 59] by rw [Lib.toList_data]] at h; exact h
        exact absurd hg (by omega)
      · have g1 : decide ((a : Int) + 6 ≤ (s.size : Int)) = false := decide_eq_false (by omega)
        have g2 : IntKind.i64.wrap ((a : Int) + 6) = (a : Int) + 6 := IntWalk.i64_in _ (by omega)
        have HV := Aside0.mk (HNM.out.trans (nameI_next _ 3 (by decide) (no_pfx s ⟨#[38, 113, 117, 111, 116, 59]⟩ a hg (by decide))))
        clear e0
        go_wp2
        go_quiet (fail)
        go_wp2
        go_roundg 1
        case measure => have := HK.out; omega
        case rel => exact ⟨4, by go_num, ⟨rfl, by omega, HV.out⟩, ⟨HN.out⟩, ⟨HC.out⟩, ⟨bl_drewN HB.out _⟩⟩
    · have m0 := cellN HN.out 4 (.string ⟨#[38, 97, 112, 111, 115, 59]⟩) rfl
      have e0 : nameAt 4 = (⟨#[38, 97, 112, 111, 115, 59]⟩, 39) := rfl
      by_cases hg : a + 6 ≤ s.size
      · have g1 : decide ((a : Int) + 6 ≤ (s.size : Int)) = true := decide_eq_true (by omega)
        have g2 : IntKind.i64.wrap ((a : Int) + 6) = (a : Int) + 6 := IntWalk.i64_in _ (by omega)
        have g3 : ((a : Int) + 6).toNat = a + 6 := by omega
        have g4 : (0 : Int) ≤ (a : Int) + 6 := by omega
        have g5 : (a : Int) ≤ (a : Int) + 6 := by omega
        have g6 : (a : Int) + 6 ≤ (s.size : Int) := by omega
        have hep : ((s.extract a (a + 6)).toList == ([38, 97, 112, 111, 115, 59] : List UInt8)) = pfxB (s.extract a s.size) (nameAt 4).1 := by have h := eq_pfx s ⟨#[38, 97, 112, 111, 115, 59]⟩ a hg; rw [show (⟨#[38, 97, 112, 111, 115, 59]⟩ : ByteArray).toList = [38, 97, 112, 111, 115, 59] by rw [Lib.toList_data]] at h; exact h
        exact absurd hg (by omega)
      · have g1 : decide ((a : Int) + 6 ≤ (s.size : Int)) = false := decide_eq_false (by omega)
        have g2 : IntKind.i64.wrap ((a : Int) + 6) = (a : Int) + 6 := IntWalk.i64_in _ (by omega)
        have HV := Aside0.mk (HNM.out.trans (nameI_next _ 4 (by decide) (no_pfx s ⟨#[38, 97, 112, 111, 115, 59]⟩ a hg (by decide))))
        clear e0
        go_wp2
        go_quiet (fail)
        go_wp2
        go_roundg 0
        case measure => have := HK.out; omega
        case rel => exact ⟨5, by go_num, ⟨rfl, by omega, HV.out⟩, ⟨HN.out⟩, ⟨HC.out⟩, ⟨bl_drewN HB.out _⟩⟩
    · have HV := Aside0.mk (HEND.out HNM.out)
      go_wp2
      go_ret2
      exact ⟨by rw [HV.out]; rfl, HB.out⟩

set_option maxHeartbeats 16000000 in
set_option maxRecDepth 100000 in
theorem rref_no (s : ByteArray) (a : Nat) (w : World) (hs : s.size ≤ 2000000) (ha : a < s.size) (h38 : bt s (a : Int) = 38) (hK : a + 2 < s.size ∧ bt s ((a : Int) + 1) ≠ 35) :
    Calls Tryd.prog 62 #[.string s, .int .i64 (a : Int)] w fun e w' => e = .returned (.tuple #[.int .i64 (refI (s.extract a s.size)).1, .int .i64 (refI (s.extract a s.size)).2]) ∧ Below w.heap.size w w' := by
  obtain ⟨R, hR⟩ : ∃ R, refI (s.extract a s.size) = R := ⟨_, rfl⟩
  have hRN : ∀ j, j < 5 → nameI (s.extract a s.size) 5 0 = nameI (s.extract a s.size) (5 - j) j → pfxB (s.extract a s.size) (nameAt j).1 = true → R = ((nameAt j).2, ((nameAt j).1.size : Int)) := fun j h1 h2 h3 => by rw [← hR]; exact refI_name s a j h3 h2 h1
  obtain ⟨hK1, hK2⟩ := hK
  have hend : nameI (s.extract a s.size) 5 0 = (0, 0) → R = (0, 0) := fun h => by rw [← hR, refI_no s a h38 (by omega) hK2]; exact h
  have q1 : ((a : Int) + 2 ≥ (s.size : Int)) = False := eq_false (by omega)
  have hi1 : a + 1 < s.size := by omega
  have q5 : ((s[a + 1]'hi1).toNat : Int) = bt s ((a : Int) + 1) := by have := bt_at s ((a : Int) + 1) (by omega); simpa using this
  obtain ⟨c1, hc1⟩ : ∃ c1, bt s ((a : Int) + 1) = c1 := ⟨_, rfl⟩
  rw [hc1] at q5 hK2
  have q6 : (c1 != 35) = true := by simpa using hK2
  have p3 : ((a : Int) + 1).toNat = a + 1 := by omega
  clear hc1 hK2
  have HEND := Aside0.mk hend
  clear hend
  rw [hR]
  have HRN := Aside0.mk hRN
  have p0 : (0 : Int) ≤ (a : Int) := by omega
  clear hRN hR h38
  go_enter Tryd.func62, Tryd.ntmps62
  go_wp2
  go_loopg [8] 5 (fun kq v8 w' => ∃ j : Nat, v8 = .int .i64 j ∧ Aside0 (kq = 5 - j ∧ j ≤ 5 ∧ nameI (s.extract a s.size) 5 0 = nameI (s.extract a s.size) (5 - j) j) ∧ Aside0 (w'.heap[w.heap.size]? = some (.cells namesC 9 (0, 0))) ∧ Aside0 (w'.heap[w.heap.size + 1]? = some (.cells charsC 3 (0, 0))) ∧ Aside0 (Below w.heap.size w w'))
  case atStart => exact ⟨0, rfl, ⟨rfl, by omega, rfl⟩, ⟨keepH (B := 0) (heap_alloc_new w _) (bl_alloc (Below.refl _ _) _)⟩, ⟨by have := heap_alloc_new (w.alloc (.cells namesC 9)) (.cells charsC 3); rw [World.size_alloc] at this; exact this⟩, ⟨bl_alloc (bl_alloc (Below.refl _ _) _) _⟩⟩
  case round =>
    obtain ⟨j, rfl, HI, HN, HC, HB⟩ := hrel
    obtain ⟨hk, hj5, hnm⟩ := HI.out
    have HK := Aside0.mk hk
    have HNM := Aside0.mk hnm
    have hj : j = 0 ∨ j = 1 ∨ j = 2 ∨ j = 3 ∨ j = 4 ∨ j = 5 := by omega
    clear HI hk hnm
    rcases hj with rfl | rfl | rfl | rfl | rfl | rfl
    · have m0 := cellN HN.out 0 (.string ⟨#[38, 97, 109, 112, 59]⟩) rfl
      have e0 : nameAt 0 = (⟨#[38, 97, 109, 112, 59]⟩, 38) := rfl
      by_cases hg : a + 5 ≤ s.size
      · have g1 : decide ((a : Int) + 5 ≤ (s.size : Int)) = true := decide_eq_true (by omega)
        have g2 : IntKind.i64.wrap ((a : Int) + 5) = (a : Int) + 5 := IntWalk.i64_in _ (by omega)
        have g3 : ((a : Int) + 5).toNat = a + 5 := by omega
        have g4 : (0 : Int) ≤ (a : Int) + 5 := by omega
        have g5 : (a : Int) ≤ (a : Int) + 5 := by omega
        have g6 : (a : Int) + 5 ≤ (s.size : Int) := by omega
        have hep : ((s.extract a (a + 5)).toList == ([38, 97, 109, 112, 59] : List UInt8)) = pfxB (s.extract a s.size) (nameAt 0).1 := by have h := eq_pfx s ⟨#[38, 97, 109, 112, 59]⟩ a hg; rw [show (⟨#[38, 97, 109, 112, 59]⟩ : ByteArray).toList = [38, 97, 109, 112, 59] by rw [Lib.toList_data]] at h; exact h
        cases hpb : pfxB (s.extract a s.size) (nameAt 0).1 with
        | true =>
          rw [hpb] at hep
          have HV := Aside0.mk (HRN.out 0 (by decide) HNM.out hpb)
          have m1 := cellN HC.out 0 (.int .i64 38) rfl
          clear e0 hpb
          go_wp2
          go_quiet (fail)
          go_wp2
          go_ret2
          exact ⟨by rw [HV.out]; rfl, bl_drewN HB.out _⟩
        | false =>
          rw [hpb] at hep
          have HV := Aside0.mk (HNM.out.trans (nameI_next _ 0 (by decide) hpb))
          clear e0 hpb
          go_wp2
          go_quiet (fail)
          go_wp2
          go_roundg 4
          case measure => have := HK.out; omega
          case rel => exact ⟨1, by go_num, ⟨rfl, by omega, HV.out⟩, ⟨HN.out⟩, ⟨HC.out⟩, ⟨bl_drewN HB.out _⟩⟩
      · have g1 : decide ((a : Int) + 5 ≤ (s.size : Int)) = false := decide_eq_false (by omega)
        have g2 : IntKind.i64.wrap ((a : Int) + 5) = (a : Int) + 5 := IntWalk.i64_in _ (by omega)
        have HV := Aside0.mk (HNM.out.trans (nameI_next _ 0 (by decide) (no_pfx s ⟨#[38, 97, 109, 112, 59]⟩ a hg (by decide))))
        clear e0
        go_wp2
        go_quiet (fail)
        go_wp2
        go_roundg 4
        case measure => have := HK.out; omega
        case rel => exact ⟨1, by go_num, ⟨rfl, by omega, HV.out⟩, ⟨HN.out⟩, ⟨HC.out⟩, ⟨bl_drewN HB.out _⟩⟩
    · have m0 := cellN HN.out 1 (.string ⟨#[38, 108, 116, 59]⟩) rfl
      have e0 : nameAt 1 = (⟨#[38, 108, 116, 59]⟩, 60) := rfl
      by_cases hg : a + 4 ≤ s.size
      · have g1 : decide ((a : Int) + 4 ≤ (s.size : Int)) = true := decide_eq_true (by omega)
        have g2 : IntKind.i64.wrap ((a : Int) + 4) = (a : Int) + 4 := IntWalk.i64_in _ (by omega)
        have g3 : ((a : Int) + 4).toNat = a + 4 := by omega
        have g4 : (0 : Int) ≤ (a : Int) + 4 := by omega
        have g5 : (a : Int) ≤ (a : Int) + 4 := by omega
        have g6 : (a : Int) + 4 ≤ (s.size : Int) := by omega
        have hep : ((s.extract a (a + 4)).toList == ([38, 108, 116, 59] : List UInt8)) = pfxB (s.extract a s.size) (nameAt 1).1 := by have h := eq_pfx s ⟨#[38, 108, 116, 59]⟩ a hg; rw [show (⟨#[38, 108, 116, 59]⟩ : ByteArray).toList = [38, 108, 116, 59] by rw [Lib.toList_data]] at h; exact h
        cases hpb : pfxB (s.extract a s.size) (nameAt 1).1 with
        | true =>
          rw [hpb] at hep
          have HV := Aside0.mk (HRN.out 1 (by decide) HNM.out hpb)
          have m1 := cellN HC.out 1 (.int .i64 60) rfl
          clear e0 hpb
          go_wp2
          go_quiet (fail)
          go_wp2
          go_ret2
          exact ⟨by rw [HV.out]; rfl, bl_drewN HB.out _⟩
        | false =>
          rw [hpb] at hep
          have HV := Aside0.mk (HNM.out.trans (nameI_next _ 1 (by decide) hpb))
          clear e0 hpb
          go_wp2
          go_quiet (fail)
          go_wp2
          go_roundg 3
          case measure => have := HK.out; omega
          case rel => exact ⟨2, by go_num, ⟨rfl, by omega, HV.out⟩, ⟨HN.out⟩, ⟨HC.out⟩, ⟨bl_drewN HB.out _⟩⟩
      · have g1 : decide ((a : Int) + 4 ≤ (s.size : Int)) = false := decide_eq_false (by omega)
        have g2 : IntKind.i64.wrap ((a : Int) + 4) = (a : Int) + 4 := IntWalk.i64_in _ (by omega)
        have HV := Aside0.mk (HNM.out.trans (nameI_next _ 1 (by decide) (no_pfx s ⟨#[38, 108, 116, 59]⟩ a hg (by decide))))
        clear e0
        go_wp2
        go_quiet (fail)
        go_wp2
        go_roundg 3
        case measure => have := HK.out; omega
        case rel => exact ⟨2, by go_num, ⟨rfl, by omega, HV.out⟩, ⟨HN.out⟩, ⟨HC.out⟩, ⟨bl_drewN HB.out _⟩⟩
    · have m0 := cellN HN.out 2 (.string ⟨#[38, 103, 116, 59]⟩) rfl
      have e0 : nameAt 2 = (⟨#[38, 103, 116, 59]⟩, 62) := rfl
      by_cases hg : a + 4 ≤ s.size
      · have g1 : decide ((a : Int) + 4 ≤ (s.size : Int)) = true := decide_eq_true (by omega)
        have g2 : IntKind.i64.wrap ((a : Int) + 4) = (a : Int) + 4 := IntWalk.i64_in _ (by omega)
        have g3 : ((a : Int) + 4).toNat = a + 4 := by omega
        have g4 : (0 : Int) ≤ (a : Int) + 4 := by omega
        have g5 : (a : Int) ≤ (a : Int) + 4 := by omega
        have g6 : (a : Int) + 4 ≤ (s.size : Int) := by omega
        have hep : ((s.extract a (a + 4)).toList == ([38, 103, 116, 59] : List UInt8)) = pfxB (s.extract a s.size) (nameAt 2).1 := by have h := eq_pfx s ⟨#[38, 103, 116, 59]⟩ a hg; rw [show (⟨#[38, 103, 116, 59]⟩ : ByteArray).toList = [38, 103, 116, 59] by rw [Lib.toList_data]] at h; exact h
        cases hpb : pfxB (s.extract a s.size) (nameAt 2).1 with
        | true =>
          rw [hpb] at hep
          have HV := Aside0.mk (HRN.out 2 (by decide) HNM.out hpb)
          have m1 := cellN HC.out 2 (.int .i64 62) rfl
          clear e0 hpb
          go_wp2
          go_quiet (fail)
          go_wp2
          go_ret2
          exact ⟨by rw [HV.out]; rfl, bl_drewN HB.out _⟩
        | false =>
          rw [hpb] at hep
          have HV := Aside0.mk (HNM.out.trans (nameI_next _ 2 (by decide) hpb))
          clear e0 hpb
          go_wp2
          go_quiet (fail)
          go_wp2
          go_roundg 2
          case measure => have := HK.out; omega
          case rel => exact ⟨3, by go_num, ⟨rfl, by omega, HV.out⟩, ⟨HN.out⟩, ⟨HC.out⟩, ⟨bl_drewN HB.out _⟩⟩
      · have g1 : decide ((a : Int) + 4 ≤ (s.size : Int)) = false := decide_eq_false (by omega)
        have g2 : IntKind.i64.wrap ((a : Int) + 4) = (a : Int) + 4 := IntWalk.i64_in _ (by omega)
        have HV := Aside0.mk (HNM.out.trans (nameI_next _ 2 (by decide) (no_pfx s ⟨#[38, 103, 116, 59]⟩ a hg (by decide))))
        clear e0
        go_wp2
        go_quiet (fail)
        go_wp2
        go_roundg 2
        case measure => have := HK.out; omega
        case rel => exact ⟨3, by go_num, ⟨rfl, by omega, HV.out⟩, ⟨HN.out⟩, ⟨HC.out⟩, ⟨bl_drewN HB.out _⟩⟩
    · have m0 := cellN HN.out 3 (.string ⟨#[38, 113, 117, 111, 116, 59]⟩) rfl
      have e0 : nameAt 3 = (⟨#[38, 113, 117, 111, 116, 59]⟩, 34) := rfl
      by_cases hg : a + 6 ≤ s.size
      · have g1 : decide ((a : Int) + 6 ≤ (s.size : Int)) = true := decide_eq_true (by omega)
        have g2 : IntKind.i64.wrap ((a : Int) + 6) = (a : Int) + 6 := IntWalk.i64_in _ (by omega)
        have g3 : ((a : Int) + 6).toNat = a + 6 := by omega
        have g4 : (0 : Int) ≤ (a : Int) + 6 := by omega
        have g5 : (a : Int) ≤ (a : Int) + 6 := by omega
        have g6 : (a : Int) + 6 ≤ (s.size : Int) := by omega
        have hep : ((s.extract a (a + 6)).toList == ([38, 113, 117, 111, 116, 59] : List UInt8)) = pfxB (s.extract a s.size) (nameAt 3).1 := by have h := eq_pfx s ⟨#[38, 113, 117, 111, 116, 59]⟩ a hg; rw [show (⟨#[38, 113, 117, 111, 116, 59]⟩ : ByteArray).toList = [38, 113, 117, 111, 116, 59] by rw [Lib.toList_data]] at h; exact h
        cases hpb : pfxB (s.extract a s.size) (nameAt 3).1 with
        | true =>
          rw [hpb] at hep
          have HV := Aside0.mk (HRN.out 3 (by decide) HNM.out hpb)
          have m1 := cellN HC.out 3 (.int .i64 34) rfl
          clear e0 hpb
          go_wp2
          go_quiet (fail)
          go_wp2
          go_ret2
          exact ⟨by rw [HV.out]; rfl, bl_drewN HB.out _⟩
        | false =>
          rw [hpb] at hep
          have HV := Aside0.mk (HNM.out.trans (nameI_next _ 3 (by decide) hpb))
          clear e0 hpb
          go_wp2
          go_quiet (fail)
          go_wp2
          go_roundg 1
          case measure => have := HK.out; omega
          case rel => exact ⟨4, by go_num, ⟨rfl, by omega, HV.out⟩, ⟨HN.out⟩, ⟨HC.out⟩, ⟨bl_drewN HB.out _⟩⟩
      · have g1 : decide ((a : Int) + 6 ≤ (s.size : Int)) = false := decide_eq_false (by omega)
        have g2 : IntKind.i64.wrap ((a : Int) + 6) = (a : Int) + 6 := IntWalk.i64_in _ (by omega)
        have HV := Aside0.mk (HNM.out.trans (nameI_next _ 3 (by decide) (no_pfx s ⟨#[38, 113, 117, 111, 116, 59]⟩ a hg (by decide))))
        clear e0
        go_wp2
        go_quiet (fail)
        go_wp2
        go_roundg 1
        case measure => have := HK.out; omega
        case rel => exact ⟨4, by go_num, ⟨rfl, by omega, HV.out⟩, ⟨HN.out⟩, ⟨HC.out⟩, ⟨bl_drewN HB.out _⟩⟩
    · have m0 := cellN HN.out 4 (.string ⟨#[38, 97, 112, 111, 115, 59]⟩) rfl
      have e0 : nameAt 4 = (⟨#[38, 97, 112, 111, 115, 59]⟩, 39) := rfl
      by_cases hg : a + 6 ≤ s.size
      · have g1 : decide ((a : Int) + 6 ≤ (s.size : Int)) = true := decide_eq_true (by omega)
        have g2 : IntKind.i64.wrap ((a : Int) + 6) = (a : Int) + 6 := IntWalk.i64_in _ (by omega)
        have g3 : ((a : Int) + 6).toNat = a + 6 := by omega
        have g4 : (0 : Int) ≤ (a : Int) + 6 := by omega
        have g5 : (a : Int) ≤ (a : Int) + 6 := by omega
        have g6 : (a : Int) + 6 ≤ (s.size : Int) := by omega
        have hep : ((s.extract a (a + 6)).toList == ([38, 97, 112, 111, 115, 59] : List UInt8)) = pfxB (s.extract a s.size) (nameAt 4).1 := by have h := eq_pfx s ⟨#[38, 97, 112, 111, 115, 59]⟩ a hg; rw [show (⟨#[38, 97, 112, 111, 115, 59]⟩ : ByteArray).toList = [38, 97, 112, 111, 115, 59] by rw [Lib.toList_data]] at h; exact h
        cases hpb : pfxB (s.extract a s.size) (nameAt 4).1 with
        | true =>
          rw [hpb] at hep
          have HV := Aside0.mk (HRN.out 4 (by decide) HNM.out hpb)
          have m1 := cellN HC.out 4 (.int .i64 39) rfl
          clear e0 hpb
          go_wp2
          go_quiet (fail)
          go_wp2
          go_ret2
          exact ⟨by rw [HV.out]; rfl, bl_drewN HB.out _⟩
        | false =>
          rw [hpb] at hep
          have HV := Aside0.mk (HNM.out.trans (nameI_next _ 4 (by decide) hpb))
          clear e0 hpb
          go_wp2
          go_quiet (fail)
          go_wp2
          go_roundg 0
          case measure => have := HK.out; omega
          case rel => exact ⟨5, by go_num, ⟨rfl, by omega, HV.out⟩, ⟨HN.out⟩, ⟨HC.out⟩, ⟨bl_drewN HB.out _⟩⟩
      · have g1 : decide ((a : Int) + 6 ≤ (s.size : Int)) = false := decide_eq_false (by omega)
        have g2 : IntKind.i64.wrap ((a : Int) + 6) = (a : Int) + 6 := IntWalk.i64_in _ (by omega)
        have HV := Aside0.mk (HNM.out.trans (nameI_next _ 4 (by decide) (no_pfx s ⟨#[38, 97, 112, 111, 115, 59]⟩ a hg (by decide))))
        clear e0
        go_wp2
        go_quiet (fail)
        go_wp2
        go_roundg 0
        case measure => have := HK.out; omega
        case rel => exact ⟨5, by go_num, ⟨rfl, by omega, HV.out⟩, ⟨HN.out⟩, ⟨HC.out⟩, ⟨bl_drewN HB.out _⟩⟩
    · have HV := Aside0.mk (HEND.out HNM.out)
      go_wp2
      go_ret2
      exact ⟨by rw [HV.out]; rfl, HB.out⟩

set_option maxHeartbeats 16000000 in
set_option maxRecDepth 100000 in
theorem rref_dec (s : ByteArray) (a : Nat) (w : World) (hs : s.size ≤ 2000000) (ha : a < s.size) (h38 : bt s (a : Int) = 38) (hK : a + 2 < s.size ∧ bt s ((a : Int) + 1) = 35 ∧ bt s ((a + 2 : Nat) : Int) ≠ 120) :
    Calls Tryd.prog 62 #[.string s, .int .i64 (a : Int)] w fun e w' => e = .returned (.tuple #[.int .i64 (refI (s.extract a s.size)).1, .int .i64 (refI (s.extract a s.size)).2]) ∧ Below w.heap.size w w' := by
  obtain ⟨R, hR⟩ : ∃ R, refI (s.extract a s.size) = R := ⟨_, rfl⟩
  have hRN : ∀ j, j < 5 → nameI (s.extract a s.size) 5 0 = nameI (s.extract a s.size) (5 - j) j → pfxB (s.extract a s.size) (nameAt j).1 = true → R = ((nameAt j).2, ((nameAt j).1.size : Int)) := fun j h1 h2 h3 => by rw [← hR]; exact refI_name s a j h3 h2 h1
  obtain ⟨hK1, hK2, hK3⟩ := hK
  obtain ⟨u, hu⟩ : ∃ u, (s.extract a s.size).extract 2 (s.extract a s.size).size = u := ⟨_, rfl⟩
  have hub : ∀ k : Nat, bt u (k : Int) = bt s ((a + 2 + k : Nat) : Int) := fun k => by rw [← hu]; exact bt_u s a k (by omega)
  have hus : u.size = s.size - (a + 2) := by rw [← hu]; exact size_u s a
  obtain ⟨RN, hRN2⟩ : ∃ RN, numI u = RN := ⟨_, rfl⟩
  have hend : R = numR RN := by rw [← hR, refI_num s a h38 (by omega) hK2, hu, hRN2]
  have hb0 := hub 0
  rw [Nat.add_zero] at hb0
  have hst : nrun u 10 0 9 0 0 = RN := by rw [← hRN2]; unfold numI; rw [if_neg (by rw [show (0 : Int) = ((0 : Nat) : Int) from rfl, hb0]; exact fun h => hK3 h.2)]
  have HST := Aside0.mk hst
  have HEND := Aside0.mk hend
  have HUB := Aside0.mk hub
  have HUS := Aside0.mk hus
  have q1 : ((a : Int) + 2 ≥ (s.size : Int)) = False := eq_false (by omega)
  have hi1 : a + 1 < s.size := by omega
  have q5 : ((s[a + 1]'hi1).toNat : Int) = 35 := by have := bt_at s ((a : Int) + 1) (by omega); rw [hK2] at this; simpa using this
  have p3 : ((a : Int) + 1).toNat = a + 1 := by omega
  have hi2 : a + 2 < s.size := hK1
  have q7 : ((s[a + 2]'hi2).toNat : Int) = bt s ((a + 2 : Nat) : Int) := by have := bt_at s ((a + 2 : Nat) : Int) (by omega); simpa only [Int.toNat_natCast] using this
  have p4 : ((a : Int) + 2).toNat = a + 2 := by omega
  obtain ⟨c2, hc2⟩ : ∃ c2, bt s ((a + 2 : Nat) : Int) = c2 := ⟨_, rfl⟩
  rw [hc2] at q7 hK3
  have q8 : (c2 == 120) = false := by simpa using hK3
  have hnp : ∀ j, pfxB (s.extract a s.size) (nameAt j).1 = false := fun j => by
    cases h : pfxB (s.extract a s.size) (nameAt j).1 with
    | false => rfl
    | true => have h1 := name_num _ j h; rw [pfx_two' s a h38 (by omega), hK2] at h1; exact absurd h1 (by decide)
  have HNP := Aside0.mk hnp
  clear hst hend hub hus hb0 hRN2 hu hc2 hK2 hK3 hnp
  rw [hR]
  have HRN := Aside0.mk hRN
  have p0 : (0 : Int) ≤ (a : Int) := by omega
  clear hRN hR h38
  go_enter Tryd.func62, Tryd.ntmps62
  go_wp2
  go_loopg [8] 5 (fun kq v8 w' => ∃ j : Nat, v8 = .int .i64 j ∧ Aside0 (kq = 5 - j ∧ j ≤ 5 ∧ nameI (s.extract a s.size) 5 0 = nameI (s.extract a s.size) (5 - j) j) ∧ Aside0 (w'.heap[w.heap.size]? = some (.cells namesC 9 (0, 0))) ∧ Aside0 (w'.heap[w.heap.size + 1]? = some (.cells charsC 3 (0, 0))) ∧ Aside0 (Below w.heap.size w w'))
  case atStart => exact ⟨0, rfl, ⟨rfl, by omega, rfl⟩, ⟨keepH (B := 0) (heap_alloc_new w _) (bl_alloc (Below.refl _ _) _)⟩, ⟨by have := heap_alloc_new (w.alloc (.cells namesC 9)) (.cells charsC 3); rw [World.size_alloc] at this; exact this⟩, ⟨bl_alloc (bl_alloc (Below.refl _ _) _) _⟩⟩
  case round =>
    obtain ⟨j, rfl, HI, HN, HC, HB⟩ := hrel
    obtain ⟨hk, hj5, hnm⟩ := HI.out
    have HK := Aside0.mk hk
    have HNM := Aside0.mk hnm
    have hj : j = 0 ∨ j = 1 ∨ j = 2 ∨ j = 3 ∨ j = 4 ∨ j = 5 := by omega
    clear HI hk hnm
    rcases hj with rfl | rfl | rfl | rfl | rfl | rfl
    · have m0 := cellN HN.out 0 (.string ⟨#[38, 97, 109, 112, 59]⟩) rfl
      have e0 : nameAt 0 = (⟨#[38, 97, 109, 112, 59]⟩, 38) := rfl
      by_cases hg : a + 5 ≤ s.size
      · have g1 : decide ((a : Int) + 5 ≤ (s.size : Int)) = true := decide_eq_true (by omega)
        have g2 : IntKind.i64.wrap ((a : Int) + 5) = (a : Int) + 5 := IntWalk.i64_in _ (by omega)
        have g3 : ((a : Int) + 5).toNat = a + 5 := by omega
        have g4 : (0 : Int) ≤ (a : Int) + 5 := by omega
        have g5 : (a : Int) ≤ (a : Int) + 5 := by omega
        have g6 : (a : Int) + 5 ≤ (s.size : Int) := by omega
        have hep : ((s.extract a (a + 5)).toList == ([38, 97, 109, 112, 59] : List UInt8)) = pfxB (s.extract a s.size) (nameAt 0).1 := by have h := eq_pfx s ⟨#[38, 97, 109, 112, 59]⟩ a hg; rw [show (⟨#[38, 97, 109, 112, 59]⟩ : ByteArray).toList = [38, 97, 109, 112, 59] by rw [Lib.toList_data]] at h; exact h
        have hpb := HNP.out 0
        rw [hpb] at hep
        have HV := Aside0.mk (HNM.out.trans (nameI_next _ 0 (by decide) hpb))
        clear e0 hpb
        go_wp2
        go_quiet (fail)
        go_wp2
        go_roundg 4
        case measure => have := HK.out; omega
        case rel => exact ⟨1, by go_num, ⟨rfl, by omega, HV.out⟩, ⟨HN.out⟩, ⟨HC.out⟩, ⟨bl_drewN HB.out _⟩⟩
      · have g1 : decide ((a : Int) + 5 ≤ (s.size : Int)) = false := decide_eq_false (by omega)
        have g2 : IntKind.i64.wrap ((a : Int) + 5) = (a : Int) + 5 := IntWalk.i64_in _ (by omega)
        have HV := Aside0.mk (HNM.out.trans (nameI_next _ 0 (by decide) (no_pfx s ⟨#[38, 97, 109, 112, 59]⟩ a hg (by decide))))
        clear e0
        go_wp2
        go_quiet (fail)
        go_wp2
        go_roundg 4
        case measure => have := HK.out; omega
        case rel => exact ⟨1, by go_num, ⟨rfl, by omega, HV.out⟩, ⟨HN.out⟩, ⟨HC.out⟩, ⟨bl_drewN HB.out _⟩⟩
    · have m0 := cellN HN.out 1 (.string ⟨#[38, 108, 116, 59]⟩) rfl
      have e0 : nameAt 1 = (⟨#[38, 108, 116, 59]⟩, 60) := rfl
      by_cases hg : a + 4 ≤ s.size
      · have g1 : decide ((a : Int) + 4 ≤ (s.size : Int)) = true := decide_eq_true (by omega)
        have g2 : IntKind.i64.wrap ((a : Int) + 4) = (a : Int) + 4 := IntWalk.i64_in _ (by omega)
        have g3 : ((a : Int) + 4).toNat = a + 4 := by omega
        have g4 : (0 : Int) ≤ (a : Int) + 4 := by omega
        have g5 : (a : Int) ≤ (a : Int) + 4 := by omega
        have g6 : (a : Int) + 4 ≤ (s.size : Int) := by omega
        have hep : ((s.extract a (a + 4)).toList == ([38, 108, 116, 59] : List UInt8)) = pfxB (s.extract a s.size) (nameAt 1).1 := by have h := eq_pfx s ⟨#[38, 108, 116, 59]⟩ a hg; rw [show (⟨#[38, 108, 116, 59]⟩ : ByteArray).toList = [38, 108, 116, 59] by rw [Lib.toList_data]] at h; exact h
        have hpb := HNP.out 1
        rw [hpb] at hep
        have HV := Aside0.mk (HNM.out.trans (nameI_next _ 1 (by decide) hpb))
        clear e0 hpb
        go_wp2
        go_quiet (fail)
        go_wp2
        go_roundg 3
        case measure => have := HK.out; omega
        case rel => exact ⟨2, by go_num, ⟨rfl, by omega, HV.out⟩, ⟨HN.out⟩, ⟨HC.out⟩, ⟨bl_drewN HB.out _⟩⟩
      · have g1 : decide ((a : Int) + 4 ≤ (s.size : Int)) = false := decide_eq_false (by omega)
        have g2 : IntKind.i64.wrap ((a : Int) + 4) = (a : Int) + 4 := IntWalk.i64_in _ (by omega)
        have HV := Aside0.mk (HNM.out.trans (nameI_next _ 1 (by decide) (no_pfx s ⟨#[38, 108, 116, 59]⟩ a hg (by decide))))
        clear e0
        go_wp2
        go_quiet (fail)
        go_wp2
        go_roundg 3
        case measure => have := HK.out; omega
        case rel => exact ⟨2, by go_num, ⟨rfl, by omega, HV.out⟩, ⟨HN.out⟩, ⟨HC.out⟩, ⟨bl_drewN HB.out _⟩⟩
    · have m0 := cellN HN.out 2 (.string ⟨#[38, 103, 116, 59]⟩) rfl
      have e0 : nameAt 2 = (⟨#[38, 103, 116, 59]⟩, 62) := rfl
      by_cases hg : a + 4 ≤ s.size
      · have g1 : decide ((a : Int) + 4 ≤ (s.size : Int)) = true := decide_eq_true (by omega)
        have g2 : IntKind.i64.wrap ((a : Int) + 4) = (a : Int) + 4 := IntWalk.i64_in _ (by omega)
        have g3 : ((a : Int) + 4).toNat = a + 4 := by omega
        have g4 : (0 : Int) ≤ (a : Int) + 4 := by omega
        have g5 : (a : Int) ≤ (a : Int) + 4 := by omega
        have g6 : (a : Int) + 4 ≤ (s.size : Int) := by omega
        have hep : ((s.extract a (a + 4)).toList == ([38, 103, 116, 59] : List UInt8)) = pfxB (s.extract a s.size) (nameAt 2).1 := by have h := eq_pfx s ⟨#[38, 103, 116, 59]⟩ a hg; rw [show (⟨#[38, 103, 116, 59]⟩ : ByteArray).toList = [38, 103, 116, 59] by rw [Lib.toList_data]] at h; exact h
        have hpb := HNP.out 2
        rw [hpb] at hep
        have HV := Aside0.mk (HNM.out.trans (nameI_next _ 2 (by decide) hpb))
        clear e0 hpb
        go_wp2
        go_quiet (fail)
        go_wp2
        go_roundg 2
        case measure => have := HK.out; omega
        case rel => exact ⟨3, by go_num, ⟨rfl, by omega, HV.out⟩, ⟨HN.out⟩, ⟨HC.out⟩, ⟨bl_drewN HB.out _⟩⟩
      · have g1 : decide ((a : Int) + 4 ≤ (s.size : Int)) = false := decide_eq_false (by omega)
        have g2 : IntKind.i64.wrap ((a : Int) + 4) = (a : Int) + 4 := IntWalk.i64_in _ (by omega)
        have HV := Aside0.mk (HNM.out.trans (nameI_next _ 2 (by decide) (no_pfx s ⟨#[38, 103, 116, 59]⟩ a hg (by decide))))
        clear e0
        go_wp2
        go_quiet (fail)
        go_wp2
        go_roundg 2
        case measure => have := HK.out; omega
        case rel => exact ⟨3, by go_num, ⟨rfl, by omega, HV.out⟩, ⟨HN.out⟩, ⟨HC.out⟩, ⟨bl_drewN HB.out _⟩⟩
    · have m0 := cellN HN.out 3 (.string ⟨#[38, 113, 117, 111, 116, 59]⟩) rfl
      have e0 : nameAt 3 = (⟨#[38, 113, 117, 111, 116, 59]⟩, 34) := rfl
      by_cases hg : a + 6 ≤ s.size
      · have g1 : decide ((a : Int) + 6 ≤ (s.size : Int)) = true := decide_eq_true (by omega)
        have g2 : IntKind.i64.wrap ((a : Int) + 6) = (a : Int) + 6 := IntWalk.i64_in _ (by omega)
        have g3 : ((a : Int) + 6).toNat = a + 6 := by omega
        have g4 : (0 : Int) ≤ (a : Int) + 6 := by omega
        have g5 : (a : Int) ≤ (a : Int) + 6 := by omega
        have g6 : (a : Int) + 6 ≤ (s.size : Int) := by omega
        have hep : ((s.extract a (a + 6)).toList == ([38, 113, 117, 111, 116, 59] : List UInt8)) = pfxB (s.extract a s.size) (nameAt 3).1 := by have h := eq_pfx s ⟨#[38, 113, 117, 111, 116, 59]⟩ a hg; rw [show (⟨#[38, 113, 117, 111, 116, 59]⟩ : ByteArray).toList = [38, 113, 117, 111, 116, 59] by rw [Lib.toList_data]] at h; exact h
        have hpb := HNP.out 3
        rw [hpb] at hep
        have HV := Aside0.mk (HNM.out.trans (nameI_next _ 3 (by decide) hpb))
        clear e0 hpb
        go_wp2
        go_quiet (fail)
        go_wp2
        go_roundg 1
        case measure => have := HK.out; omega
        case rel => exact ⟨4, by go_num, ⟨rfl, by omega, HV.out⟩, ⟨HN.out⟩, ⟨HC.out⟩, ⟨bl_drewN HB.out _⟩⟩
      · have g1 : decide ((a : Int) + 6 ≤ (s.size : Int)) = false := decide_eq_false (by omega)
        have g2 : IntKind.i64.wrap ((a : Int) + 6) = (a : Int) + 6 := IntWalk.i64_in _ (by omega)
        have HV := Aside0.mk (HNM.out.trans (nameI_next _ 3 (by decide) (no_pfx s ⟨#[38, 113, 117, 111, 116, 59]⟩ a hg (by decide))))
        clear e0
        go_wp2
        go_quiet (fail)
        go_wp2
        go_roundg 1
        case measure => have := HK.out; omega
        case rel => exact ⟨4, by go_num, ⟨rfl, by omega, HV.out⟩, ⟨HN.out⟩, ⟨HC.out⟩, ⟨bl_drewN HB.out _⟩⟩
    · have m0 := cellN HN.out 4 (.string ⟨#[38, 97, 112, 111, 115, 59]⟩) rfl
      have e0 : nameAt 4 = (⟨#[38, 97, 112, 111, 115, 59]⟩, 39) := rfl
      by_cases hg : a + 6 ≤ s.size
      · have g1 : decide ((a : Int) + 6 ≤ (s.size : Int)) = true := decide_eq_true (by omega)
        have g2 : IntKind.i64.wrap ((a : Int) + 6) = (a : Int) + 6 := IntWalk.i64_in _ (by omega)
        have g3 : ((a : Int) + 6).toNat = a + 6 := by omega
        have g4 : (0 : Int) ≤ (a : Int) + 6 := by omega
        have g5 : (a : Int) ≤ (a : Int) + 6 := by omega
        have g6 : (a : Int) + 6 ≤ (s.size : Int) := by omega
        have hep : ((s.extract a (a + 6)).toList == ([38, 97, 112, 111, 115, 59] : List UInt8)) = pfxB (s.extract a s.size) (nameAt 4).1 := by have h := eq_pfx s ⟨#[38, 97, 112, 111, 115, 59]⟩ a hg; rw [show (⟨#[38, 97, 112, 111, 115, 59]⟩ : ByteArray).toList = [38, 97, 112, 111, 115, 59] by rw [Lib.toList_data]] at h; exact h
        have hpb := HNP.out 4
        rw [hpb] at hep
        have HV := Aside0.mk (HNM.out.trans (nameI_next _ 4 (by decide) hpb))
        clear e0 hpb
        go_wp2
        go_quiet (fail)
        go_wp2
        go_roundg 0
        case measure => have := HK.out; omega
        case rel => exact ⟨5, by go_num, ⟨rfl, by omega, HV.out⟩, ⟨HN.out⟩, ⟨HC.out⟩, ⟨bl_drewN HB.out _⟩⟩
      · have g1 : decide ((a : Int) + 6 ≤ (s.size : Int)) = false := decide_eq_false (by omega)
        have g2 : IntKind.i64.wrap ((a : Int) + 6) = (a : Int) + 6 := IntWalk.i64_in _ (by omega)
        have HV := Aside0.mk (HNM.out.trans (nameI_next _ 4 (by decide) (no_pfx s ⟨#[38, 97, 112, 111, 115, 59]⟩ a hg (by decide))))
        clear e0
        go_wp2
        go_quiet (fail)
        go_wp2
        go_roundg 0
        case measure => have := HK.out; omega
        case rel => exact ⟨5, by go_num, ⟨rfl, by omega, HV.out⟩, ⟨HN.out⟩, ⟨HC.out⟩, ⟨bl_drewN HB.out _⟩⟩
    · clear HN HC HNM HK
      go_wp2
      go_loopg [11, 13] 8 (fun kq v11 v13 w' => ∃ (i k : Nat) (r : Int), v11 = .int .i64 i ∧ v13 = .int .i64 r ∧ Aside0 (kq = 0 + 8 - k ∧ i = a + 2 + k ∧ 0 ≤ k ∧ k ≤ 0 + 8 ∧ i ≤ s.size ∧ 0 ≤ r ∧ r < ((16 ^ (k - 0) : Nat) : Int) ∧ ((k ≤ 0 + 7 ∧ nrun u 10 0 (0 + 9 - k) k r = RN) ∨ (k = 0 + 8 ∧ RN = (0, 0)))) ∧ Aside0 (Below w.heap.size w w'))
      case atStart => exact ⟨a + 2, 0, 0, by go_num, rfl, ⟨by omega, by omega, by omega, by omega, by omega, by omega, by decide, .inl ⟨by omega, HST.out⟩⟩, ⟨HB.out⟩⟩
      case round =>
        obtain ⟨i, k, r, rfl, rfl, HI, HBR⟩ := hrel
        obtain ⟨hk, hik, hFk, hk8, hile, hr0, hrp, hd⟩ := HI.out
        have HK := Aside0.mk hk
        have HD := Aside0.mk hd
        have HP := Aside0.mk hrp
        have hp8 := pow_le8 (k - 0) (by omega)
        have hrb : r < 4294967296 := by omega
        have huz := HUS.out
        have hbu := HUB.out k
        rw [← hik] at hbu
        have hps : (16 : Nat) ^ (k + 1 - 0) = 16 ^ (k - 0) * 16 := (congrArg (fun n => (16 : Nat) ^ n) (by omega : k + 1 - 0 = (k - 0) + 1)).trans (Nat.pow_succ _ _)
        by_cases hlt : i < s.size
        · have hi : i < s.size := hlt
          have q5 : ((s[i]'hi).toNat : Int) = bt s (i : Int) := by have := bt_at s (i : Int) (by simpa using hi); simpa using this
          have q1 : ((i : Int) < (s.size : Int)) = True := eq_true (by omega)
          have q2 : (0 : Int) ≤ (i : Int) := by omega
          obtain ⟨c, hc⟩ : ∃ c, bt s (i : Int) = c := ⟨_, rfl⟩
          rw [hc] at q5 hbu
          have hvf := rhex_f 0 c
          have hvr := valI_range c
          obtain ⟨v, hv⟩ : ∃ v, valI c = v := ⟨_, rfl⟩
          rw [hv] at hvf hvr
          have HVF := Aside0.mk hvf
          by_cases k1 : 0 ≤ v ∧ v < 10
          · have c1 : (v ≥ 0) = True := eq_true k1.1
            have c2 : (v < 10) = True := eq_true k1.2
            by_cases k8 : k = 0 + 8
            · have HV0 := Aside0.mk (nrun_exit0 u 10 0 k r RN hFk hd (.inl k8) (.inl k8))
              have c3 : ((i : Int) - ((a : Int) + 2) < 8) = False := eq_false (by omega)
              have d1 : ((i : Int) == (a : Int) + 2) = false := beq_eq_false_iff_ne.mpr (by omega)
              have d2 : ((i : Int) - ((a : Int) + 2) > 7) = True := eq_true (by omega)
              clear hlt hc hv hvf hbu hps hd hrp hp8 huz k8 hk hik HI
              go_wp2_with (first
                | (go_at_call 76; (with_reducible refine (emendref1_Hex.calls 2 c v _ HVF.out).mono ?_); rintro e w1 ⟨rfl, ⟨nd, rfl⟩⟩))
              go_ret2
              exact ⟨by rw [HEND.out, HV0.out]; rfl, bl_drewN HBR.out _⟩
            · have HN2 := Aside0.mk (nrun_next u 10 0 k r v RN hFk k8 hd (by rw [hbu]; exact hv) ⟨by omega, k1⟩)
              have c3 : ((i : Int) - ((a : Int) + 2) < 8) = True := eq_true (by omega)
              have hb2 : r * 10 + v < ((16 ^ (k + 1 - 0) : Nat) : Int) := by rw [hps]; omega
              have hb3 : 0 ≤ r * 10 + v := by omega
              have HB2 := Aside0.mk hb2
              have hik1 : i ≤ a + 2 + k := by omega
              have hik2 : a + 2 + k ≤ i := by omega
              clear hlt hc hv hvf hbu hps hd hrp hp8 huz hk hb2 hik HI
              go_wp2_with (first
                | (go_at_call 76; (with_reducible refine (emendref1_Hex.calls 2 c v _ HVF.out).mono ?_); rintro e w1 ⟨rfl, ⟨nd, rfl⟩⟩))
              go_roundg (0 + 8 - (k + 1))
              case measure => have := HK.out; omega
              case rel => exact ⟨i + 1, k + 1, r * 10 + v, by go_num, by go_num, ⟨rfl, by omega, by omega, by omega, by omega, hb3, HB2.out, HN2.out⟩, ⟨bl_drewN HBR.out _⟩⟩
          · by_cases k0 : 0 ≤ v
            · have c1 : (v ≥ 0) = True := eq_true k0
              have c2 : (v < 10) = False := eq_false (fun h => k1 ⟨k0, h⟩)
              by_cases k2 : k = 0
              · have HV0 := Aside0.mk (nrun_exit0 u 10 0 k r RN hFk hd (.inr (fun h => k1 (by have h2 := h.2; rw [hbu, hv] at h2; exact h2))) (.inr (.inl k2)))
                have d1 : ((i : Int) == (a : Int) + 2) = true := beq_iff_eq.mpr (by omega)
                clear hps hd hrp hp8 huz hk hik HI hbu hlt hc hv hvf k2
                go_wp2_with (first
                  | (go_at_call 76; (with_reducible refine (emendref1_Hex.calls 2 c v _ HVF.out).mono ?_); rintro e w1 ⟨rfl, ⟨nd, rfl⟩⟩))
                go_ret2
                exact ⟨by rw [HEND.out, HV0.out]; rfl, bl_drewN HBR.out _⟩
              · have d1 : ((i : Int) == (a : Int) + 2) = false := beq_eq_false_iff_ne.mpr (by omega)
                by_cases k8 : k = 0 + 8
                · have HV0 := Aside0.mk (nrun_exit0 u 10 0 k r RN hFk hd (.inl k8) (.inl k8))
                  have d2 : ((i : Int) - ((a : Int) + 2) > 7) = True := eq_true (by omega)
                  clear hps hd hrp hp8 huz hk hik HI hbu hlt hc hv hvf k8
                  go_wp2_with (first
                    | (go_at_call 76; (with_reducible refine (emendref1_Hex.calls 2 c v _ HVF.out).mono ?_); rintro e w1 ⟨rfl, ⟨nd, rfl⟩⟩))
                  go_ret2
                  exact ⟨by rw [HEND.out, HV0.out]; rfl, bl_drewN HBR.out _⟩
                · have d2 : ((i : Int) - ((a : Int) + 2) > 7) = False := eq_false (by omega)
                  have d3 : ((i : Int) ≥ (s.size : Int)) = False := eq_false (by omega)
                  by_cases k5 : c = 59
                  · have d4 : (c != 59) = false := by simpa using k5
                    have hxf := rxml_f' r
                    cases hx : xmlB r with
                    | false =>
                      rw [hx] at hxf
                      have HXF := Aside0.mk hxf
                      have HV0 := Aside0.mk (nrun_exit0 u 10 0 k r RN hFk hd (.inr (fun h => k1 (by have h2 := h.2; rw [hbu, hv] at h2; exact h2))) (.inr (.inr (.inr (.inr hx)))))
                      clear hps hd hrp hp8 huz hk hik HI hbu hlt hc hv hvf hxf hx k5
                      go_wp2_with (first
                        | (go_at_call 76; (with_reducible refine (emendref1_Hex.calls 2 c v _ HVF.out).mono ?_); rintro e w1 ⟨rfl, ⟨nd, rfl⟩⟩)
                        | (go_at_call 61; (with_reducible refine (emendref1_XML.calls r false _ HXF.out).mono ?_); rintro e w2 ⟨rfl, ⟨nd2, rfl⟩⟩))
                      go_ret2
                      exact ⟨by rw [HEND.out, HV0.out]; rfl, bl_drewN HBR.out _⟩
                    | true =>
                      rw [hx] at hxf
                      have HXF := Aside0.mk hxf
                      have HV0 := Aside0.mk (nrun_exit1 u 10 0 k r RN hFk hd (fun h => k1 (by have h2 := h.2; rw [hbu, hv] at h2; exact h2)) k8 k2 (by omega) (by rw [hbu]; exact k5) hx)
                      have HIK := Aside0.mk hik
                      clear hps hd hrp hp8 huz hk hik HI hbu hlt hc hv hvf hxf hx k5
                      go_wp2_with (first
                        | (go_at_call 76; (with_reducible refine (emendref1_Hex.calls 2 c v _ HVF.out).mono ?_); rintro e w1 ⟨rfl, ⟨nd, rfl⟩⟩)
                        | (go_at_call 61; (with_reducible refine (emendref1_XML.calls r true _ HXF.out).mono ?_); rintro e w2 ⟨rfl, ⟨nd2, rfl⟩⟩))
                      go_ret2
                      refine ⟨by rw [HEND.out, HV0.out, numR_1]; exact ret_two rfl (by have := HIK.out; omega), bl_drewN HBR.out _⟩
                  · have d4 : (c != 59) = true := by simpa using k5
                    have HV0 := Aside0.mk (nrun_exit0 u 10 0 k r RN hFk hd (.inr (fun h => k1 (by have h2 := h.2; rw [hbu, hv] at h2; exact h2))) (.inr (.inr (.inr (.inl (by rw [hbu]; exact k5))))))
                    clear hps hd hrp hp8 huz hk hik HI hbu hlt hc hv hvf k5
                    go_wp2_with (first
                      | (go_at_call 76; (with_reducible refine (emendref1_Hex.calls 2 c v _ HVF.out).mono ?_); rintro e w1 ⟨rfl, ⟨nd, rfl⟩⟩))
                    go_ret2
                    exact ⟨by rw [HEND.out, HV0.out]; rfl, bl_drewN HBR.out _⟩
            · have c1 : (v ≥ 0) = False := eq_false k0
              by_cases k2 : k = 0
              · have HV0 := Aside0.mk (nrun_exit0 u 10 0 k r RN hFk hd (.inr (fun h => k1 (by have h2 := h.2; rw [hbu, hv] at h2; exact h2))) (.inr (.inl k2)))
                have d1 : ((i : Int) == (a : Int) + 2) = true := beq_iff_eq.mpr (by omega)
                clear hps hd hrp hp8 huz hk hik HI hbu hlt hc hv hvf k2
                go_wp2_with (first
                  | (go_at_call 76; (with_reducible refine (emendref1_Hex.calls 2 c v _ HVF.out).mono ?_); rintro e w1 ⟨rfl, ⟨nd, rfl⟩⟩))
                go_ret2
                exact ⟨by rw [HEND.out, HV0.out]; rfl, bl_drewN HBR.out _⟩
              · have d1 : ((i : Int) == (a : Int) + 2) = false := beq_eq_false_iff_ne.mpr (by omega)
                by_cases k8 : k = 0 + 8
                · have HV0 := Aside0.mk (nrun_exit0 u 10 0 k r RN hFk hd (.inl k8) (.inl k8))
                  have d2 : ((i : Int) - ((a : Int) + 2) > 7) = True := eq_true (by omega)
                  clear hps hd hrp hp8 huz hk hik HI hbu hlt hc hv hvf k8
                  go_wp2_with (first
                    | (go_at_call 76; (with_reducible refine (emendref1_Hex.calls 2 c v _ HVF.out).mono ?_); rintro e w1 ⟨rfl, ⟨nd, rfl⟩⟩))
                  go_ret2
                  exact ⟨by rw [HEND.out, HV0.out]; rfl, bl_drewN HBR.out _⟩
                · have d2 : ((i : Int) - ((a : Int) + 2) > 7) = False := eq_false (by omega)
                  have d3 : ((i : Int) ≥ (s.size : Int)) = False := eq_false (by omega)
                  by_cases k5 : c = 59
                  · have d4 : (c != 59) = false := by simpa using k5
                    have hxf := rxml_f' r
                    cases hx : xmlB r with
                    | false =>
                      rw [hx] at hxf
                      have HXF := Aside0.mk hxf
                      have HV0 := Aside0.mk (nrun_exit0 u 10 0 k r RN hFk hd (.inr (fun h => k1 (by have h2 := h.2; rw [hbu, hv] at h2; exact h2))) (.inr (.inr (.inr (.inr hx)))))
                      clear hps hd hrp hp8 huz hk hik HI hbu hlt hc hv hvf hxf hx k5
                      go_wp2_with (first
                        | (go_at_call 76; (with_reducible refine (emendref1_Hex.calls 2 c v _ HVF.out).mono ?_); rintro e w1 ⟨rfl, ⟨nd, rfl⟩⟩)
                        | (go_at_call 61; (with_reducible refine (emendref1_XML.calls r false _ HXF.out).mono ?_); rintro e w2 ⟨rfl, ⟨nd2, rfl⟩⟩))
                      go_ret2
                      exact ⟨by rw [HEND.out, HV0.out]; rfl, bl_drewN HBR.out _⟩
                    | true =>
                      rw [hx] at hxf
                      have HXF := Aside0.mk hxf
                      have HV0 := Aside0.mk (nrun_exit1 u 10 0 k r RN hFk hd (fun h => k1 (by have h2 := h.2; rw [hbu, hv] at h2; exact h2)) k8 k2 (by omega) (by rw [hbu]; exact k5) hx)
                      have HIK := Aside0.mk hik
                      clear hps hd hrp hp8 huz hk hik HI hbu hlt hc hv hvf hxf hx k5
                      go_wp2_with (first
                        | (go_at_call 76; (with_reducible refine (emendref1_Hex.calls 2 c v _ HVF.out).mono ?_); rintro e w1 ⟨rfl, ⟨nd, rfl⟩⟩)
                        | (go_at_call 61; (with_reducible refine (emendref1_XML.calls r true _ HXF.out).mono ?_); rintro e w2 ⟨rfl, ⟨nd2, rfl⟩⟩))
                      go_ret2
                      refine ⟨by rw [HEND.out, HV0.out, numR_1]; exact ret_two rfl (by have := HIK.out; omega), bl_drewN HBR.out _⟩
                  · have d4 : (c != 59) = true := by simpa using k5
                    have HV0 := Aside0.mk (nrun_exit0 u 10 0 k r RN hFk hd (.inr (fun h => k1 (by have h2 := h.2; rw [hbu, hv] at h2; exact h2))) (.inr (.inr (.inr (.inl (by rw [hbu]; exact k5))))))
                    clear hps hd hrp hp8 huz hk hik HI hbu hlt hc hv hvf k5
                    go_wp2_with (first
                      | (go_at_call 76; (with_reducible refine (emendref1_Hex.calls 2 c v _ HVF.out).mono ?_); rintro e w1 ⟨rfl, ⟨nd, rfl⟩⟩))
                    go_ret2
                    exact ⟨by rw [HEND.out, HV0.out]; rfl, bl_drewN HBR.out _⟩
        · have q1 : ((i : Int) < (s.size : Int)) = False := eq_false (by omega)
          by_cases k2 : k = 0
          · have HV0 := Aside0.mk (nrun_exit0 u 10 0 k r RN hFk hd (.inr (fun h => hlt (by omega))) (.inr (.inl k2)))
            have d1 : ((i : Int) == (a : Int) + 2) = true := beq_iff_eq.mpr (by omega)
            clear hps hd hrp hp8 huz hk hik HI hbu hlt k2
            go_wp2
            go_ret2
            exact ⟨by rw [HEND.out, HV0.out]; rfl, HBR.out⟩
          · have d1 : ((i : Int) == (a : Int) + 2) = false := beq_eq_false_iff_ne.mpr (by omega)
            by_cases k8 : k = 0 + 8
            · have HV0 := Aside0.mk (nrun_exit0 u 10 0 k r RN hFk hd (.inl k8) (.inl k8))
              have d2 : ((i : Int) - ((a : Int) + 2) > 7) = True := eq_true (by omega)
              clear hps hd hrp hp8 huz hk hik HI hbu hlt k8
              go_wp2
              go_ret2
              exact ⟨by rw [HEND.out, HV0.out]; rfl, HBR.out⟩
            · have d2 : ((i : Int) - ((a : Int) + 2) > 7) = False := eq_false (by omega)
              have HV0 := Aside0.mk (nrun_exit0 u 10 0 k r RN hFk hd (.inr (fun h => hlt (by omega))) (.inr (.inr (.inl (by omega)))))
              have d3 : ((i : Int) ≥ (s.size : Int)) = True := eq_true (by omega)
              clear hps hd hrp hp8 huz hk hik HI hbu hlt
              go_wp2
              go_ret2
              exact ⟨by rw [HEND.out, HV0.out]; rfl, HBR.out⟩

set_option maxHeartbeats 16000000 in
set_option maxRecDepth 100000 in
theorem rref_hex (s : ByteArray) (a : Nat) (w : World) (hs : s.size ≤ 2000000) (ha : a < s.size) (h38 : bt s (a : Int) = 38) (hK : a + 2 < s.size ∧ bt s ((a : Int) + 1) = 35 ∧ bt s ((a + 2 : Nat) : Int) = 120) :
    Calls Tryd.prog 62 #[.string s, .int .i64 (a : Int)] w fun e w' => e = .returned (.tuple #[.int .i64 (refI (s.extract a s.size)).1, .int .i64 (refI (s.extract a s.size)).2]) ∧ Below w.heap.size w w' := by
  obtain ⟨R, hR⟩ : ∃ R, refI (s.extract a s.size) = R := ⟨_, rfl⟩
  have hRN : ∀ j, j < 5 → nameI (s.extract a s.size) 5 0 = nameI (s.extract a s.size) (5 - j) j → pfxB (s.extract a s.size) (nameAt j).1 = true → R = ((nameAt j).2, ((nameAt j).1.size : Int)) := fun j h1 h2 h3 => by rw [← hR]; exact refI_name s a j h3 h2 h1
  obtain ⟨hK1, hK2, hK3⟩ := hK
  obtain ⟨u, hu⟩ : ∃ u, (s.extract a s.size).extract 2 (s.extract a s.size).size = u := ⟨_, rfl⟩
  have hub : ∀ k : Nat, bt u (k : Int) = bt s ((a + 2 + k : Nat) : Int) := fun k => by rw [← hu]; exact bt_u s a k (by omega)
  have hus : u.size = s.size - (a + 2) := by rw [← hu]; exact size_u s a
  obtain ⟨RN, hRN2⟩ : ∃ RN, numI u = RN := ⟨_, rfl⟩
  have hend : R = numR RN := by rw [← hR, refI_num s a h38 (by omega) hK2, hu, hRN2]
  have hb0 := hub 0
  rw [Nat.add_zero] at hb0
  have hst : nrun u 16 1 9 1 0 = RN := by rw [← hRN2]; unfold numI; rw [if_pos ⟨by omega, by rw [show (0 : Int) = ((0 : Nat) : Int) from rfl, hb0]; exact hK3⟩]
  have HST := Aside0.mk hst
  have HEND := Aside0.mk hend
  have HUB := Aside0.mk hub
  have HUS := Aside0.mk hus
  have q1 : ((a : Int) + 2 ≥ (s.size : Int)) = False := eq_false (by omega)
  have hi1 : a + 1 < s.size := by omega
  have q5 : ((s[a + 1]'hi1).toNat : Int) = 35 := by have := bt_at s ((a : Int) + 1) (by omega); rw [hK2] at this; simpa using this
  have p3 : ((a : Int) + 1).toNat = a + 1 := by omega
  have hi2 : a + 2 < s.size := hK1
  have q7 : ((s[a + 2]'hi2).toNat : Int) = bt s ((a + 2 : Nat) : Int) := by have := bt_at s ((a + 2 : Nat) : Int) (by omega); simpa only [Int.toNat_natCast] using this
  have p4 : ((a : Int) + 2).toNat = a + 2 := by omega
  obtain ⟨c2, hc2⟩ : ∃ c2, bt s ((a + 2 : Nat) : Int) = c2 := ⟨_, rfl⟩
  rw [hc2] at q7 hK3
  have q8 : (c2 == 120) = true := by simpa using hK3
  have hnp : ∀ j, pfxB (s.extract a s.size) (nameAt j).1 = false := fun j => by
    cases h : pfxB (s.extract a s.size) (nameAt j).1 with
    | false => rfl
    | true => have h1 := name_num _ j h; rw [pfx_two' s a h38 (by omega), hK2] at h1; exact absurd h1 (by decide)
  have HNP := Aside0.mk hnp
  clear hst hend hub hus hb0 hRN2 hu hc2 hK2 hK3 hnp
  rw [hR]
  have HRN := Aside0.mk hRN
  have p0 : (0 : Int) ≤ (a : Int) := by omega
  clear hRN hR h38
  go_enter Tryd.func62, Tryd.ntmps62
  go_wp2
  go_loopg [8] 5 (fun kq v8 w' => ∃ j : Nat, v8 = .int .i64 j ∧ Aside0 (kq = 5 - j ∧ j ≤ 5 ∧ nameI (s.extract a s.size) 5 0 = nameI (s.extract a s.size) (5 - j) j) ∧ Aside0 (w'.heap[w.heap.size]? = some (.cells namesC 9 (0, 0))) ∧ Aside0 (w'.heap[w.heap.size + 1]? = some (.cells charsC 3 (0, 0))) ∧ Aside0 (Below w.heap.size w w'))
  case atStart => exact ⟨0, rfl, ⟨rfl, by omega, rfl⟩, ⟨keepH (B := 0) (heap_alloc_new w _) (bl_alloc (Below.refl _ _) _)⟩, ⟨by have := heap_alloc_new (w.alloc (.cells namesC 9)) (.cells charsC 3); rw [World.size_alloc] at this; exact this⟩, ⟨bl_alloc (bl_alloc (Below.refl _ _) _) _⟩⟩
  case round =>
    obtain ⟨j, rfl, HI, HN, HC, HB⟩ := hrel
    obtain ⟨hk, hj5, hnm⟩ := HI.out
    have HK := Aside0.mk hk
    have HNM := Aside0.mk hnm
    have hj : j = 0 ∨ j = 1 ∨ j = 2 ∨ j = 3 ∨ j = 4 ∨ j = 5 := by omega
    clear HI hk hnm
    rcases hj with rfl | rfl | rfl | rfl | rfl | rfl
    · have m0 := cellN HN.out 0 (.string ⟨#[38, 97, 109, 112, 59]⟩) rfl
      have e0 : nameAt 0 = (⟨#[38, 97, 109, 112, 59]⟩, 38) := rfl
      by_cases hg : a + 5 ≤ s.size
      · have g1 : decide ((a : Int) + 5 ≤ (s.size : Int)) = true := decide_eq_true (by omega)
        have g2 : IntKind.i64.wrap ((a : Int) + 5) = (a : Int) + 5 := IntWalk.i64_in _ (by omega)
        have g3 : ((a : Int) + 5).toNat = a + 5 := by omega
        have g4 : (0 : Int) ≤ (a : Int) + 5 := by omega
        have g5 : (a : Int) ≤ (a : Int) + 5 := by omega
        have g6 : (a : Int) + 5 ≤ (s.size : Int) := by omega
        have hep : ((s.extract a (a + 5)).toList == ([38, 97, 109, 112, 59] : List UInt8)) = pfxB (s.extract a s.size) (nameAt 0).1 := by have h := eq_pfx s ⟨#[38, 97, 109, 112, 59]⟩ a hg; rw [show (⟨#[38, 97, 109, 112, 59]⟩ : ByteArray).toList = [38, 97, 109, 112, 59] by rw [Lib.toList_data]] at h; exact h
        have hpb := HNP.out 0
        rw [hpb] at hep
        have HV := Aside0.mk (HNM.out.trans (nameI_next _ 0 (by decide) hpb))
        clear e0 hpb
        go_wp2
        go_quiet (fail)
        go_wp2
        go_roundg 4
        case measure => have := HK.out; omega
        case rel => exact ⟨1, by go_num, ⟨rfl, by omega, HV.out⟩, ⟨HN.out⟩, ⟨HC.out⟩, ⟨bl_drewN HB.out _⟩⟩
      · have g1 : decide ((a : Int) + 5 ≤ (s.size : Int)) = false := decide_eq_false (by omega)
        have g2 : IntKind.i64.wrap ((a : Int) + 5) = (a : Int) + 5 := IntWalk.i64_in _ (by omega)
        have HV := Aside0.mk (HNM.out.trans (nameI_next _ 0 (by decide) (no_pfx s ⟨#[38, 97, 109, 112, 59]⟩ a hg (by decide))))
        clear e0
        go_wp2
        go_quiet (fail)
        go_wp2
        go_roundg 4
        case measure => have := HK.out; omega
        case rel => exact ⟨1, by go_num, ⟨rfl, by omega, HV.out⟩, ⟨HN.out⟩, ⟨HC.out⟩, ⟨bl_drewN HB.out _⟩⟩
    · have m0 := cellN HN.out 1 (.string ⟨#[38, 108, 116, 59]⟩) rfl
      have e0 : nameAt 1 = (⟨#[38, 108, 116, 59]⟩, 60) := rfl
      by_cases hg : a + 4 ≤ s.size
      · have g1 : decide ((a : Int) + 4 ≤ (s.size : Int)) = true := decide_eq_true (by omega)
        have g2 : IntKind.i64.wrap ((a : Int) + 4) = (a : Int) + 4 := IntWalk.i64_in _ (by omega)
        have g3 : ((a : Int) + 4).toNat = a + 4 := by omega
        have g4 : (0 : Int) ≤ (a : Int) + 4 := by omega
        have g5 : (a : Int) ≤ (a : Int) + 4 := by omega
        have g6 : (a : Int) + 4 ≤ (s.size : Int) := by omega
        have hep : ((s.extract a (a + 4)).toList == ([38, 108, 116, 59] : List UInt8)) = pfxB (s.extract a s.size) (nameAt 1).1 := by have h := eq_pfx s ⟨#[38, 108, 116, 59]⟩ a hg; rw [show (⟨#[38, 108, 116, 59]⟩ : ByteArray).toList = [38, 108, 116, 59] by rw [Lib.toList_data]] at h; exact h
        have hpb := HNP.out 1
        rw [hpb] at hep
        have HV := Aside0.mk (HNM.out.trans (nameI_next _ 1 (by decide) hpb))
        clear e0 hpb
        go_wp2
        go_quiet (fail)
        go_wp2
        go_roundg 3
        case measure => have := HK.out; omega
        case rel => exact ⟨2, by go_num, ⟨rfl, by omega, HV.out⟩, ⟨HN.out⟩, ⟨HC.out⟩, ⟨bl_drewN HB.out _⟩⟩
      · have g1 : decide ((a : Int) + 4 ≤ (s.size : Int)) = false := decide_eq_false (by omega)
        have g2 : IntKind.i64.wrap ((a : Int) + 4) = (a : Int) + 4 := IntWalk.i64_in _ (by omega)
        have HV := Aside0.mk (HNM.out.trans (nameI_next _ 1 (by decide) (no_pfx s ⟨#[38, 108, 116, 59]⟩ a hg (by decide))))
        clear e0
        go_wp2
        go_quiet (fail)
        go_wp2
        go_roundg 3
        case measure => have := HK.out; omega
        case rel => exact ⟨2, by go_num, ⟨rfl, by omega, HV.out⟩, ⟨HN.out⟩, ⟨HC.out⟩, ⟨bl_drewN HB.out _⟩⟩
    · have m0 := cellN HN.out 2 (.string ⟨#[38, 103, 116, 59]⟩) rfl
      have e0 : nameAt 2 = (⟨#[38, 103, 116, 59]⟩, 62) := rfl
      by_cases hg : a + 4 ≤ s.size
      · have g1 : decide ((a : Int) + 4 ≤ (s.size : Int)) = true := decide_eq_true (by omega)
        have g2 : IntKind.i64.wrap ((a : Int) + 4) = (a : Int) + 4 := IntWalk.i64_in _ (by omega)
        have g3 : ((a : Int) + 4).toNat = a + 4 := by omega
        have g4 : (0 : Int) ≤ (a : Int) + 4 := by omega
        have g5 : (a : Int) ≤ (a : Int) + 4 := by omega
        have g6 : (a : Int) + 4 ≤ (s.size : Int) := by omega
        have hep : ((s.extract a (a + 4)).toList == ([38, 103, 116, 59] : List UInt8)) = pfxB (s.extract a s.size) (nameAt 2).1 := by have h := eq_pfx s ⟨#[38, 103, 116, 59]⟩ a hg; rw [show (⟨#[38, 103, 116, 59]⟩ : ByteArray).toList = [38, 103, 116, 59] by rw [Lib.toList_data]] at h; exact h
        have hpb := HNP.out 2
        rw [hpb] at hep
        have HV := Aside0.mk (HNM.out.trans (nameI_next _ 2 (by decide) hpb))
        clear e0 hpb
        go_wp2
        go_quiet (fail)
        go_wp2
        go_roundg 2
        case measure => have := HK.out; omega
        case rel => exact ⟨3, by go_num, ⟨rfl, by omega, HV.out⟩, ⟨HN.out⟩, ⟨HC.out⟩, ⟨bl_drewN HB.out _⟩⟩
      · have g1 : decide ((a : Int) + 4 ≤ (s.size : Int)) = false := decide_eq_false (by omega)
        have g2 : IntKind.i64.wrap ((a : Int) + 4) = (a : Int) + 4 := IntWalk.i64_in _ (by omega)
        have HV := Aside0.mk (HNM.out.trans (nameI_next _ 2 (by decide) (no_pfx s ⟨#[38, 103, 116, 59]⟩ a hg (by decide))))
        clear e0
        go_wp2
        go_quiet (fail)
        go_wp2
        go_roundg 2
        case measure => have := HK.out; omega
        case rel => exact ⟨3, by go_num, ⟨rfl, by omega, HV.out⟩, ⟨HN.out⟩, ⟨HC.out⟩, ⟨bl_drewN HB.out _⟩⟩
    · have m0 := cellN HN.out 3 (.string ⟨#[38, 113, 117, 111, 116, 59]⟩) rfl
      have e0 : nameAt 3 = (⟨#[38, 113, 117, 111, 116, 59]⟩, 34) := rfl
      by_cases hg : a + 6 ≤ s.size
      · have g1 : decide ((a : Int) + 6 ≤ (s.size : Int)) = true := decide_eq_true (by omega)
        have g2 : IntKind.i64.wrap ((a : Int) + 6) = (a : Int) + 6 := IntWalk.i64_in _ (by omega)
        have g3 : ((a : Int) + 6).toNat = a + 6 := by omega
        have g4 : (0 : Int) ≤ (a : Int) + 6 := by omega
        have g5 : (a : Int) ≤ (a : Int) + 6 := by omega
        have g6 : (a : Int) + 6 ≤ (s.size : Int) := by omega
        have hep : ((s.extract a (a + 6)).toList == ([38, 113, 117, 111, 116, 59] : List UInt8)) = pfxB (s.extract a s.size) (nameAt 3).1 := by have h := eq_pfx s ⟨#[38, 113, 117, 111, 116, 59]⟩ a hg; rw [show (⟨#[38, 113, 117, 111, 116, 59]⟩ : ByteArray).toList = [38, 113, 117, 111, 116, 59] by rw [Lib.toList_data]] at h; exact h
        have hpb := HNP.out 3
        rw [hpb] at hep
        have HV := Aside0.mk (HNM.out.trans (nameI_next _ 3 (by decide) hpb))
        clear e0 hpb
        go_wp2
        go_quiet (fail)
        go_wp2
        go_roundg 1
        case measure => have := HK.out; omega
        case rel => exact ⟨4, by go_num, ⟨rfl, by omega, HV.out⟩, ⟨HN.out⟩, ⟨HC.out⟩, ⟨bl_drewN HB.out _⟩⟩
      · have g1 : decide ((a : Int) + 6 ≤ (s.size : Int)) = false := decide_eq_false (by omega)
        have g2 : IntKind.i64.wrap ((a : Int) + 6) = (a : Int) + 6 := IntWalk.i64_in _ (by omega)
        have HV := Aside0.mk (HNM.out.trans (nameI_next _ 3 (by decide) (no_pfx s ⟨#[38, 113, 117, 111, 116, 59]⟩ a hg (by decide))))
        clear e0
        go_wp2
        go_quiet (fail)
        go_wp2
        go_roundg 1
        case measure => have := HK.out; omega
        case rel => exact ⟨4, by go_num, ⟨rfl, by omega, HV.out⟩, ⟨HN.out⟩, ⟨HC.out⟩, ⟨bl_drewN HB.out _⟩⟩
    · have m0 := cellN HN.out 4 (.string ⟨#[38, 97, 112, 111, 115, 59]⟩) rfl
      have e0 : nameAt 4 = (⟨#[38, 97, 112, 111, 115, 59]⟩, 39) := rfl
      by_cases hg : a + 6 ≤ s.size
      · have g1 : decide ((a : Int) + 6 ≤ (s.size : Int)) = true := decide_eq_true (by omega)
        have g2 : IntKind.i64.wrap ((a : Int) + 6) = (a : Int) + 6 := IntWalk.i64_in _ (by omega)
        have g3 : ((a : Int) + 6).toNat = a + 6 := by omega
        have g4 : (0 : Int) ≤ (a : Int) + 6 := by omega
        have g5 : (a : Int) ≤ (a : Int) + 6 := by omega
        have g6 : (a : Int) + 6 ≤ (s.size : Int) := by omega
        have hep : ((s.extract a (a + 6)).toList == ([38, 97, 112, 111, 115, 59] : List UInt8)) = pfxB (s.extract a s.size) (nameAt 4).1 := by have h := eq_pfx s ⟨#[38, 97, 112, 111, 115, 59]⟩ a hg; rw [show (⟨#[38, 97, 112, 111, 115, 59]⟩ : ByteArray).toList = [38, 97, 112, 111, 115, 59] by rw [Lib.toList_data]] at h; exact h
        have hpb := HNP.out 4
        rw [hpb] at hep
        have HV := Aside0.mk (HNM.out.trans (nameI_next _ 4 (by decide) hpb))
        clear e0 hpb
        go_wp2
        go_quiet (fail)
        go_wp2
        go_roundg 0
        case measure => have := HK.out; omega
        case rel => exact ⟨5, by go_num, ⟨rfl, by omega, HV.out⟩, ⟨HN.out⟩, ⟨HC.out⟩, ⟨bl_drewN HB.out _⟩⟩
      · have g1 : decide ((a : Int) + 6 ≤ (s.size : Int)) = false := decide_eq_false (by omega)
        have g2 : IntKind.i64.wrap ((a : Int) + 6) = (a : Int) + 6 := IntWalk.i64_in _ (by omega)
        have HV := Aside0.mk (HNM.out.trans (nameI_next _ 4 (by decide) (no_pfx s ⟨#[38, 97, 112, 111, 115, 59]⟩ a hg (by decide))))
        clear e0
        go_wp2
        go_quiet (fail)
        go_wp2
        go_roundg 0
        case measure => have := HK.out; omega
        case rel => exact ⟨5, by go_num, ⟨rfl, by omega, HV.out⟩, ⟨HN.out⟩, ⟨HC.out⟩, ⟨bl_drewN HB.out _⟩⟩
    · clear HN HC HNM HK
      go_wp2
      go_loopg [11, 13] 8 (fun kq v11 v13 w' => ∃ (i k : Nat) (r : Int), v11 = .int .i64 i ∧ v13 = .int .i64 r ∧ Aside0 (kq = 1 + 8 - k ∧ i = a + 2 + k ∧ 1 ≤ k ∧ k ≤ 1 + 8 ∧ i ≤ s.size ∧ 0 ≤ r ∧ r < ((16 ^ (k - 1) : Nat) : Int) ∧ ((k ≤ 1 + 7 ∧ nrun u 16 1 (1 + 9 - k) k r = RN) ∨ (k = 1 + 8 ∧ RN = (0, 0)))) ∧ Aside0 (Below w.heap.size w w'))
      case atStart => exact ⟨a + 2 + 1, 1, 0, by go_num, rfl, ⟨by omega, by omega, by omega, by omega, by omega, by omega, by decide, .inl ⟨by omega, HST.out⟩⟩, ⟨HB.out⟩⟩
      case round =>
        obtain ⟨i, k, r, rfl, rfl, HI, HBR⟩ := hrel
        obtain ⟨hk, hik, hFk, hk8, hile, hr0, hrp, hd⟩ := HI.out
        have HK := Aside0.mk hk
        have HD := Aside0.mk hd
        have HP := Aside0.mk hrp
        have hp8 := pow_le8 (k - 1) (by omega)
        have hrb : r < 4294967296 := by omega
        have huz := HUS.out
        have hbu := HUB.out k
        rw [← hik] at hbu
        have hps : (16 : Nat) ^ (k + 1 - 1) = 16 ^ (k - 1) * 16 := (congrArg (fun n => (16 : Nat) ^ n) (by omega : k + 1 - 1 = (k - 1) + 1)).trans (Nat.pow_succ _ _)
        by_cases hlt : i < s.size
        · have hi : i < s.size := hlt
          have q5 : ((s[i]'hi).toNat : Int) = bt s (i : Int) := by have := bt_at s (i : Int) (by simpa using hi); simpa using this
          have q1 : ((i : Int) < (s.size : Int)) = True := eq_true (by omega)
          have q2 : (0 : Int) ≤ (i : Int) := by omega
          obtain ⟨c, hc⟩ : ∃ c, bt s (i : Int) = c := ⟨_, rfl⟩
          rw [hc] at q5 hbu
          have hvf := rhex_f 0 c
          have hvr := valI_range c
          obtain ⟨v, hv⟩ : ∃ v, valI c = v := ⟨_, rfl⟩
          rw [hv] at hvf hvr
          have HVF := Aside0.mk hvf
          by_cases k1 : 0 ≤ v ∧ v < 16
          · have c1 : (v ≥ 0) = True := eq_true k1.1
            have c2 : (v < 16) = True := eq_true k1.2
            by_cases k8 : k = 1 + 8
            · have HV0 := Aside0.mk (nrun_exit0 u 16 1 k r RN hFk hd (.inl k8) (.inl k8))
              have c3 : ((i : Int) - ((a : Int) + 2 + 1) < 8) = False := eq_false (by omega)
              have d1 : ((i : Int) == (a : Int) + 2 + 1) = false := beq_eq_false_iff_ne.mpr (by omega)
              have d2 : ((i : Int) - ((a : Int) + 2 + 1) > 7) = True := eq_true (by omega)
              clear hlt hc hv hvf hbu hps hd hrp hp8 huz k8 hk hik HI
              go_wp2_with (first
                | (go_at_call 76; (with_reducible refine (emendref1_Hex.calls 2 c v _ HVF.out).mono ?_); rintro e w1 ⟨rfl, ⟨nd, rfl⟩⟩))
              go_ret2
              exact ⟨by rw [HEND.out, HV0.out]; rfl, bl_drewN HBR.out _⟩
            · have HN2 := Aside0.mk (nrun_next u 16 1 k r v RN hFk k8 hd (by rw [hbu]; exact hv) ⟨by omega, k1⟩)
              have c3 : ((i : Int) - ((a : Int) + 2 + 1) < 8) = True := eq_true (by omega)
              have hb2 : r * 16 + v < ((16 ^ (k + 1 - 1) : Nat) : Int) := by rw [hps]; omega
              have hb3 : 0 ≤ r * 16 + v := by omega
              have HB2 := Aside0.mk hb2
              have hik1 : i ≤ a + 2 + k := by omega
              have hik2 : a + 2 + k ≤ i := by omega
              clear hlt hc hv hvf hbu hps hd hrp hp8 huz hk hb2 hik HI
              go_wp2_with (first
                | (go_at_call 76; (with_reducible refine (emendref1_Hex.calls 2 c v _ HVF.out).mono ?_); rintro e w1 ⟨rfl, ⟨nd, rfl⟩⟩))
              go_roundg (1 + 8 - (k + 1))
              case measure => have := HK.out; omega
              case rel => exact ⟨i + 1, k + 1, r * 16 + v, by go_num, by go_num, ⟨rfl, by omega, by omega, by omega, by omega, hb3, HB2.out, HN2.out⟩, ⟨bl_drewN HBR.out _⟩⟩
          · by_cases k0 : 0 ≤ v
            · exact absurd ⟨k0, hvr.2⟩ k1
            · have c1 : (v ≥ 0) = False := eq_false k0
              by_cases k2 : k = 1
              · have HV0 := Aside0.mk (nrun_exit0 u 16 1 k r RN hFk hd (.inr (fun h => k1 (by have h2 := h.2; rw [hbu, hv] at h2; exact h2))) (.inr (.inl k2)))
                have d1 : ((i : Int) == (a : Int) + 2 + 1) = true := beq_iff_eq.mpr (by omega)
                clear hps hd hrp hp8 huz hk hik HI hbu hlt hc hv hvf k2
                go_wp2_with (first
                  | (go_at_call 76; (with_reducible refine (emendref1_Hex.calls 2 c v _ HVF.out).mono ?_); rintro e w1 ⟨rfl, ⟨nd, rfl⟩⟩))
                go_ret2
                exact ⟨by rw [HEND.out, HV0.out]; rfl, bl_drewN HBR.out _⟩
              · have d1 : ((i : Int) == (a : Int) + 2 + 1) = false := beq_eq_false_iff_ne.mpr (by omega)
                by_cases k8 : k = 1 + 8
                · have HV0 := Aside0.mk (nrun_exit0 u 16 1 k r RN hFk hd (.inl k8) (.inl k8))
                  have d2 : ((i : Int) - ((a : Int) + 2 + 1) > 7) = True := eq_true (by omega)
                  clear hps hd hrp hp8 huz hk hik HI hbu hlt hc hv hvf k8
                  go_wp2_with (first
                    | (go_at_call 76; (with_reducible refine (emendref1_Hex.calls 2 c v _ HVF.out).mono ?_); rintro e w1 ⟨rfl, ⟨nd, rfl⟩⟩))
                  go_ret2
                  exact ⟨by rw [HEND.out, HV0.out]; rfl, bl_drewN HBR.out _⟩
                · have d2 : ((i : Int) - ((a : Int) + 2 + 1) > 7) = False := eq_false (by omega)
                  have d3 : ((i : Int) ≥ (s.size : Int)) = False := eq_false (by omega)
                  by_cases k5 : c = 59
                  · have d4 : (c != 59) = false := by simpa using k5
                    have hxf := rxml_f' r
                    cases hx : xmlB r with
                    | false =>
                      rw [hx] at hxf
                      have HXF := Aside0.mk hxf
                      have HV0 := Aside0.mk (nrun_exit0 u 16 1 k r RN hFk hd (.inr (fun h => k1 (by have h2 := h.2; rw [hbu, hv] at h2; exact h2))) (.inr (.inr (.inr (.inr hx)))))
                      clear hps hd hrp hp8 huz hk hik HI hbu hlt hc hv hvf hxf hx k5
                      go_wp2_with (first
                        | (go_at_call 76; (with_reducible refine (emendref1_Hex.calls 2 c v _ HVF.out).mono ?_); rintro e w1 ⟨rfl, ⟨nd, rfl⟩⟩)
                        | (go_at_call 61; (with_reducible refine (emendref1_XML.calls r false _ HXF.out).mono ?_); rintro e w2 ⟨rfl, ⟨nd2, rfl⟩⟩))
                      go_ret2
                      exact ⟨by rw [HEND.out, HV0.out]; rfl, bl_drewN HBR.out _⟩
                    | true =>
                      rw [hx] at hxf
                      have HXF := Aside0.mk hxf
                      have HV0 := Aside0.mk (nrun_exit1 u 16 1 k r RN hFk hd (fun h => k1 (by have h2 := h.2; rw [hbu, hv] at h2; exact h2)) k8 k2 (by omega) (by rw [hbu]; exact k5) hx)
                      have HIK := Aside0.mk hik
                      clear hps hd hrp hp8 huz hk hik HI hbu hlt hc hv hvf hxf hx k5
                      go_wp2_with (first
                        | (go_at_call 76; (with_reducible refine (emendref1_Hex.calls 2 c v _ HVF.out).mono ?_); rintro e w1 ⟨rfl, ⟨nd, rfl⟩⟩)
                        | (go_at_call 61; (with_reducible refine (emendref1_XML.calls r true _ HXF.out).mono ?_); rintro e w2 ⟨rfl, ⟨nd2, rfl⟩⟩))
                      go_ret2
                      refine ⟨by rw [HEND.out, HV0.out, numR_1]; exact ret_two rfl (by have := HIK.out; omega), bl_drewN HBR.out _⟩
                  · have d4 : (c != 59) = true := by simpa using k5
                    have HV0 := Aside0.mk (nrun_exit0 u 16 1 k r RN hFk hd (.inr (fun h => k1 (by have h2 := h.2; rw [hbu, hv] at h2; exact h2))) (.inr (.inr (.inr (.inl (by rw [hbu]; exact k5))))))
                    clear hps hd hrp hp8 huz hk hik HI hbu hlt hc hv hvf k5
                    go_wp2_with (first
                      | (go_at_call 76; (with_reducible refine (emendref1_Hex.calls 2 c v _ HVF.out).mono ?_); rintro e w1 ⟨rfl, ⟨nd, rfl⟩⟩))
                    go_ret2
                    exact ⟨by rw [HEND.out, HV0.out]; rfl, bl_drewN HBR.out _⟩
        · have q1 : ((i : Int) < (s.size : Int)) = False := eq_false (by omega)
          by_cases k2 : k = 1
          · have HV0 := Aside0.mk (nrun_exit0 u 16 1 k r RN hFk hd (.inr (fun h => hlt (by omega))) (.inr (.inl k2)))
            have d1 : ((i : Int) == (a : Int) + 2 + 1) = true := beq_iff_eq.mpr (by omega)
            clear hps hd hrp hp8 huz hk hik HI hbu hlt k2
            go_wp2
            go_ret2
            exact ⟨by rw [HEND.out, HV0.out]; rfl, HBR.out⟩
          · have d1 : ((i : Int) == (a : Int) + 2 + 1) = false := beq_eq_false_iff_ne.mpr (by omega)
            by_cases k8 : k = 1 + 8
            · have HV0 := Aside0.mk (nrun_exit0 u 16 1 k r RN hFk hd (.inl k8) (.inl k8))
              have d2 : ((i : Int) - ((a : Int) + 2 + 1) > 7) = True := eq_true (by omega)
              clear hps hd hrp hp8 huz hk hik HI hbu hlt k8
              go_wp2
              go_ret2
              exact ⟨by rw [HEND.out, HV0.out]; rfl, HBR.out⟩
            · have d2 : ((i : Int) - ((a : Int) + 2 + 1) > 7) = False := eq_false (by omega)
              have HV0 := Aside0.mk (nrun_exit0 u 16 1 k r RN hFk hd (.inr (fun h => hlt (by omega))) (.inr (.inr (.inl (by omega)))))
              have d3 : ((i : Int) ≥ (s.size : Int)) = True := eq_true (by omega)
              clear hps hd hrp hp8 huz hk hik HI hbu hlt
              go_wp2
              go_ret2
              exact ⟨by rw [HEND.out, HV0.out]; rfl, HBR.out⟩

/-- The reference's Reference answers what text.Reference answers. -/
theorem rref_any (s : ByteArray) (a : Nat) (w : World) (hs : s.size ≤ 2000000) (ha : a < s.size) (h38 : bt s (a : Int) = 38) :
    Calls Tryd.prog 62 #[.string s, .int .i64 (a : Int)] w fun e w' => e = .returned (.tuple #[.int .i64 (refI (s.extract a s.size)).1, .int .i64 (refI (s.extract a s.size)).2]) ∧ Below w.heap.size w w' := by
  by_cases h1 : s.size ≤ a + 2
  · exact rref_short s a w hs ha h38 h1
  · by_cases h2 : bt s ((a : Int) + 1) = 35
    · by_cases h3 : bt s ((a + 2 : Nat) : Int) = 120
      · exact rref_hex s a w hs ha h38 ⟨by omega, h2, h3⟩
      · exact rref_dec s a w hs ha h38 ⟨by omega, h2, h3⟩
    · exact rref_no s a w hs ha h38 ⟨by omega, h2⟩
end Go.Proofs.YtgdfgahpjebcaaaDoor
