/-
  emendlaw1.TextSpotBack, walked.
-/
import Derived.Test.YtgdfgahpjebcaaaDoorSpb
import Derived.Test.YtgdfgahpjebcaaaDoorSiz
set_option linter.unusedSimpArgs false
set_option linter.unusedVariables false
namespace Go.Proofs.YtgdfgahpjebcaaaDoor
open Go.RowKit Go.Proofs.YtgdfgahpjebcaaaDoorW.PrintWords Go.Proofs.YtgdfgahpjebcaaaDoor.PT

theorem few_calls (s : ByteArray) (n : Nat) (m : Int) (hm : m = n) (w : World) : Calls Tryd.prog 24 #[.string s, .int .i64 m] w fun e w' => e = .returned (.string (fewI s n)) ∧ Drawn0 w w' := by
  subst hm; exact emendlaw1_few.calls s n _ w (few_f s n)
theorem valid_calls (s : ByteArray) (b : Bool) (l : List Int) (er : Option Nat) (w : World) (hs : s.size ≤ 17592186000000) (h : Scan s 0 l er) (hb : er.isNone = b) : Calls Tryd.prog 28 #[.string s] w fun e w' => e = .returned (.bool b) ∧ Drawn0 w w' :=
  text_Valid.calls (s.size + 9) s b w (by rw [valid_f (by omega) h, hb])

set_option maxHeartbeats 4000000 in
set_option maxRecDepth 100000 in
theorem spotback_bad (s0 : ByteArray) (w : World) (he : Env w) (l : List Int) (a : Nat) (h : Scan (fewI s0 300) 0 l (some a)) :
    Calls Tryd.prog 9 #[.string s0] w fun e w' => e = .returned (.bool true) ∧ Below w.heap.size w w' := by
  have hsz := few_size s0 300
  obtain ⟨s, hs⟩ : ∃ s, fewI s0 300 = s := ⟨_, rfl⟩
  rw [hs] at h hsz
  have HS := Aside0.mk hs
  have HV := Aside0.mk (fun w => valid_calls s false l (some a) w (by omega) h rfl)
  clear hs
  go_enter Tryd.func9, Tryd.ntmps9
  go_wp2_with (first
    | (go_at_call 24; (with_reducible refine (few_calls s0 300 300 rfl _).mono ?_); rintro e w1 ⟨rfl, ⟨nd, rfl⟩⟩; rw [HS.out])
    | (go_at_call 28; (with_reducible refine (HV.out _).mono ?_); rintro e w1 ⟨rfl, ⟨nd2, rfl⟩⟩)
    | (go_at_call 3; (with_reducible refine (runs_later w _ he ?_).mono ?_); (focus exact bl_drewN (Below.refl _ _) _); rintro e w3 ⟨rfl, hc3⟩))
  go_ret
  exact ⟨rfl, hc3⟩

set_option maxHeartbeats 8000000 in
set_option maxRecDepth 100000 in
theorem spotback_ok (s0 : ByteArray) (w : World) (he : Env w) (l : List Int) (h : Scan (fewI s0 300) 0 l none) :
    Calls Tryd.prog 9 #[.string s0] w fun e w' => e = .returned (.bool true) ∧ Below w.heap.size w w' := by
  have hsz := few_size s0 300
  obtain ⟨s, hs⟩ : ∃ s, fewI s0 300 = s := ⟨_, rfl⟩
  rw [hs] at h hsz
  have HS := Aside0.mk hs
  have HH := Aside0.mk h
  have HV := Aside0.mk (fun w => valid_calls s true l none w (by omega) h rfl)
  clear hs h
  have hc0 : ∀ nd, ((w.drewN nd).alloc (.cells #[.int .i64 0, .int .i64 0] 33)).cell? ⟨w.heap.size, 0, none⟩ = some (.int .i64 0) := fun nd => (Lib.cell_of_heap (heap_alloc_new (w.drewN nd) _) 0).trans rfl
  have hz0 : ∀ nd, ((w.drewN nd).alloc (.cells #[.int .i64 0, .int .i64 0] 33)).frozen? ⟨w.heap.size, 0, none⟩ = false := fun nd => Lib.frozen_of_heap (heap_alloc_new (w.drewN nd) _) 0
  have hc1 : ∀ nd, ((w.drewN nd).alloc (.cells #[.int .i64 0, .int .i64 0] 33)).cell? ⟨w.heap.size, 1, none⟩ = some (.int .i64 0) := fun nd => (Lib.cell_of_heap (heap_alloc_new (w.drewN nd) _) 1).trans rfl
  have hz1 : ∀ nd, ((w.drewN nd).alloc (.cells #[.int .i64 0, .int .i64 0] 33)).frozen? ⟨w.heap.size, 1, none⟩ = false := fun nd => Lib.frozen_of_heap (heap_alloc_new (w.drewN nd) _) 1
  go_enter Tryd.func9, Tryd.ntmps9
  go_wp2_with (first
    | (go_at_call 24; (with_reducible refine (few_calls s0 300 300 rfl _).mono ?_); rintro e w1 ⟨rfl, ⟨nd, rfl⟩⟩; rw [HS.out])
    | (go_at_call 28; (with_reducible refine (HV.out _).mono ?_); rintro e w1 ⟨rfl, ⟨nd2, rfl⟩⟩))
  clear hc0 hc1 hz0 hz1
  go_loopg [4] (s.size + 1) (fun kq v4 w' => ∃ (i : Nat) (la lb : Int), v4 = .int .i64 i ∧ Aside0 (kq = s.size + 1 - i ∧ i ≤ s.size + 1 ∧ ∀ at_ a b : Int, (i : Int) ≤ at_ → at_ ≤ s.size → spotL at_ l 0 1 1 = (a, b, 0) → spLt la lb a b) ∧ Aside0 (w'.heap[w.heap.size]? = some (.cells #[.int .i64 la, .int .i64 lb] 33 (0, 0))) ∧ Aside0 (Below w.heap.size w w'))
  case atStart => exact ⟨0, 0, 0, rfl, ⟨rfl, by omega, fun at_ a b h0 h1 hs => spot_first HH.out at_ a b h0 h1 hs⟩, ⟨blk2_set1 (blk2_set0 (heap_alloc_new (w.drewN _) _) _) _⟩, ⟨bl_set (bl_set (bl_alloc (bl_drewN (Below.refl _ _) _) _) (Nat.le_refl _) _) (Nat.le_refl _) _⟩⟩
  case round =>
    obtain ⟨i, la, lb, rfl, HI, HL, HB⟩ := hrel
    obtain ⟨hk, hile, hinv⟩ := HI.out
    have hwz := HB.out.size
    by_cases hlt : i ≤ s.size
    · have q1 : ((i : Int) ≤ (s.size : Int)) = True := eq_true (by omega)
      obtain ⟨a, b, c, habc⟩ : ∃ a b c, spotL (i : Int) l 0 1 1 = (a, b, c) := ⟨_, _, _, rfl⟩
      have hsp : spotS s i l none = (a, b, c) := by unfold spotS; rw [if_neg (by omega)]; exact habc
      have HSP := Aside0.mk hsp
      have HK := Aside0.mk hk
      by_cases hc : c = 0
      · subst hc
        have hba := (spot_back HH.out rfl (i : Int) 1 1 a b (by omega) (by omega) habc).2.2
        have hat : atS a b l none = ((i : Int), 0) := hba
        have HAT := Aside0.mk hat
        have hl := hinv (i : Int) a b (Int.le_refl _) (by omega) habc
        have hinv2 : ∀ at_ a' b' : Int, ((i + 1 : Nat) : Int) ≤ at_ → at_ ≤ s.size → spotL at_ l 0 1 1 = (a', b', 0) → spLt a b a' b' := fun at_ a' b' g0 g1 g2 => spot_rise HH.out rfl (i : Int) at_ 1 1 a b a' b' (by omega) (by omega) g1 habc g2
        have HV2 := Aside0.mk hinv2
        have e1 : ((i : Int) == (i : Int)) = true := by simp
        have f1 : (a < la) = False := by rcases hl with g | g <;> exact eq_false (by omega)
        have f2 : (a == la && decide (b ≤ lb)) = false := by
          rcases hl with g | g
          · simp; omega
          · simp; omega
        have f3 : ((a == la) = false) ∨ ((a == la) = true ∧ (b ≤ lb) = False) := by
          rcases hl with g | g
          · exact .inl (beq_eq_false_iff_ne.mpr (by omega))
          · exact .inr ⟨beq_iff_eq.mpr g.1.symm, eq_false (by omega)⟩
        clear hsp hinv hat hba habc hinv2 hl hk HI f2
        rcases f3 with f3 | ⟨f3, f4⟩
        · go_wp2_with (first
            | (go_at_call 16; (with_reducible refine (spotof_any s (i : Int) a b 0 l none _ (by omega) HH.out HSP.out).mono ?_); rintro e w1 ⟨rfl, hc1⟩)
            | (go_at_call 17; (with_reducible refine (at_any s a b (i : Int) 0 l none _ (by omega) HH.out HAT.out).mono ?_); rintro e w2 ⟨rfl, hc2⟩; have hp2 := below_heap hc2 (heap_alloc_new w1 _); have hl2 := below_heap2 hc2 (bl_alloc (Below.refl w1.heap.size w1) _) (below_heap hc1 HL.out); have p0 := cell_at0 hp2; have p1 := cell_at1 hp2; have l0 := cell_at0 hl2; have l1 := cell_at1 hl2; have z0 := Lib.frozen_of_heap hl2 0; have z1 := Lib.frozen_of_heap hl2 1; have HL2 := Aside0.mk hl2; have HC2 := Aside0.mk hc2; clear hp2 hl2 hc2))
          go_roundg (s.size + 1 - (i + 1))
          case measure => have := HK.out; omega
          case rel =>
            refine ⟨i + 1, a, b, by go_num, ⟨rfl, by omega, HV2.out⟩, ⟨blk2_set1 (blk2_set0 HL2.out _) _⟩, ⟨?_⟩⟩
            exact bl_set (bl_set (bl_trans (bl_alloc (bl_trans HB.out hc1) _) HC2.out) (Nat.le_refl _) _) (Nat.le_refl _) _
        · go_wp2_with (first
            | (go_at_call 16; (with_reducible refine (spotof_any s (i : Int) a b 0 l none _ (by omega) HH.out HSP.out).mono ?_); rintro e w1 ⟨rfl, hc1⟩)
            | (go_at_call 17; (with_reducible refine (at_any s a b (i : Int) 0 l none _ (by omega) HH.out HAT.out).mono ?_); rintro e w2 ⟨rfl, hc2⟩; have hp2 := below_heap hc2 (heap_alloc_new w1 _); have hl2 := below_heap2 hc2 (bl_alloc (Below.refl w1.heap.size w1) _) (below_heap hc1 HL.out); have p0 := cell_at0 hp2; have p1 := cell_at1 hp2; have l0 := cell_at0 hl2; have l1 := cell_at1 hl2; have z0 := Lib.frozen_of_heap hl2 0; have z1 := Lib.frozen_of_heap hl2 1; have HL2 := Aside0.mk hl2; have HC2 := Aside0.mk hc2; clear hp2 hl2 hc2))
          go_roundg (s.size + 1 - (i + 1))
          case measure => have := HK.out; omega
          case rel =>
            refine ⟨i + 1, a, b, by go_num, ⟨rfl, by omega, HV2.out⟩, ⟨blk2_set1 (blk2_set0 HL2.out _) _⟩, ⟨?_⟩⟩
            exact bl_set (bl_set (bl_trans (bl_alloc (bl_trans HB.out hc1) _) HC2.out) (Nat.le_refl _) _) (Nat.le_refl _) _
      · have c1 : (c == 0) = false := by simpa using hc
        have HV2 := Aside0.mk (fun (at_ a' b' : Int) (g0 : ((i + 1 : Nat) : Int) ≤ at_) (g1 : at_ ≤ s.size) (g2 : spotL at_ l 0 1 1 = (a', b', 0)) => hinv at_ a' b' (by omega) g1 g2)
        clear hsp hinv habc hk HI hc
        go_wp2_with (first
          | (go_at_call 16; (with_reducible refine (spotof_any s (i : Int) a b c l none _ (by omega) HH.out HSP.out).mono ?_); rintro e w1 ⟨rfl, hc1⟩))
        go_roundg (s.size + 1 - (i + 1))
        case measure => have := HK.out; omega
        case rel => exact ⟨i + 1, la, lb, by go_num, ⟨rfl, by omega, HV2.out⟩, ⟨below_heap (bl_alloc (Below.refl w1.heap.size w1) _) (below_heap hc1 HL.out)⟩, ⟨bl_alloc (bl_trans HB.out hc1) _⟩⟩
    · have q1 : ((i : Int) ≤ (s.size : Int)) = False := eq_false (by omega)
      clear hinv hk HI
      go_wp2_with (first
        | (go_at_call 3; (with_reducible refine (runs_later w _ he ?_).mono ?_); (focus exact HB.out); rintro e w3 ⟨rfl, hc3⟩))
      go_ret
      exact ⟨rfl, hc3⟩
end Go.Proofs.YtgdfgahpjebcaaaDoor
