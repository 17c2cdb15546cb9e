/-
  emendlaw1.TextRunes, walked. PRINTED by gen_rnw.py.
-/
import Derived.Test.YtgdfgahpjebcaaaDoorBoa
import Derived.Test.YtgdfgahpjebcaaaDoorSam
import Derived.Test.YtgdfgahpjebcaaaDoorRes
set_option linter.unusedSimpArgs false
set_option linter.unusedVariables false
namespace Go.Proofs.YtgdfgahpjebcaaaDoor
open Go.RowKit Go.Proofs.YtgdfgahpjebcaaaDoorW.PrintWords Go.Proofs.YtgdfgahpjebcaaaDoor.PT

theorem few4' (s : ByteArray) (w : World) : Calls Tryd.prog 24 #[.string s, .int .i64 4000] w fun e w' => e = .returned (.string (fewI s 4000)) ∧ Drawn0 w w' := few_calls' s 4000 4000 rfl w
theorem cut_row {w : World} {B : Nat} {v : Value} {l : List Int} (h : CutRow w B v l) : ∃ A, v = .slice A l.length l.length ∧ RowAt w A l ∧ ∀ g, A = some ⟨g, 0, none⟩ → B ≤ g := by
  rcases h with ⟨rfl, rfl⟩ | ⟨g, cur, rfl, hB, hh, hc, ht⟩
  · exact ⟨none, rfl, .inl ⟨rfl, rfl⟩, by intro g h; cases h⟩
  · refine ⟨_, rfl, .inr ⟨g, cur, rfl, hh, ht⟩, ?_⟩
    intro g' h
    injection h with h; injection h with h _ _; omega
/-- What text.Runes and the reference's answer, alike. -/
def RunBoth (s : ByteArray) (r : List Int) (a y : Int) : Prop :=
  (∀ w : World, Calls Tryd.prog 12 #[.string s] w fun e w' => ∃ A v, e = .returned (.tuple #[.slice A r.length r.length, v]) ∧ RowAt w' A r ∧ (∀ g, A = some ⟨g, 0, none⟩ → w.heap.size ≤ g) ∧ ErrAt w' v a y ∧ Below w.heap.size w w') ∧
  (∀ w : World, Calls Tryd.prog 25 #[.string s] w fun e w' => ∃ A c, e = .returned (.tuple #[.slice A r.length c, .agg #[.int .i64 a, .int .i64 y]]) ∧ r.length ≤ c ∧ Kd.C (Kd.int .i64) w' A r.length r ∧ Below w.heap.size w w') ∧
  (∀ w : World, Calls Tryd.prog 28 #[.string s] w fun e w' => e = .returned (.bool (y == 0)) ∧ Drawn0 w w') ∧
  (-9223372036854775808 ≤ a ∧ a ≤ 9223372036854775807) ∧ (0 ≤ y ∧ y < 100) ∧ r.length ≤ s.size
theorem run_both (s : ByteArray) (hs : s.size ≤ 1000000) : ∃ r a y, RunBoth s r a y := by
  obtain ⟨l, er, h⟩ := scan_exists s _ 0 (Nat.zero_le _) rfl
  cases er with
  | some k =>
    have hk := (h.says.2.2 k rfl).2.1
    refine ⟨[], k, 10, fun w => ?_, fun w => rrunes_any s l _ w (by omega) h _ _ _ rfl, fun w => text_Valid.calls (s.size + 9) s _ w (by rw [valid_f (by omega) h]; rfl), by omega, by omega, Nat.zero_le _⟩
    refine (runes_any s l _ w (by omega) h).mono fun e w' hp => ?_
    rcases hp with ⟨h0, _⟩ | ⟨a, g, h0, he, hr, hg, hb⟩
    · cases h0
    · injection h0 with h0
      subst h0
      exact ⟨none, _, he, .inl ⟨rfl, rfl⟩, (by intro g h; cases h), .inr ⟨by decide, g, rfl, hr⟩, hb⟩
  | none =>
    refine ⟨l, 0, 0, fun w => ?_, fun w => rrunes_any s l _ w (by omega) h _ _ _ rfl, fun w => text_Valid.calls (s.size + 9) s _ w (by rw [valid_f (by omega) h]; rfl), by omega, by omega, by have := scan_len h; omega⟩
    refine (runes_ok s l w (by omega) h).mono fun e w' ⟨v, he, hc, hb⟩ => ?_
    obtain ⟨A, rfl, hA, hB⟩ := cut_row hc
    exact ⟨A, _, he, hA, hB, .inl ⟨rfl, rfl⟩, hb⟩

theorem own_later {w w' : World} {B e size n : Nat} {v : Value} {xs : List Value} (h : w.ownsRow B e size v n xs) (hb : Below w.heap.size w w') : w'.ownsRow B e size v n xs := by
  refine ⟨h.1, ?_⟩
  rcases h.2 with hn | ⟨g, cap, cur, rfl, hg, hgg, rest⟩
  · exact .inl hn
  · exact .inr ⟨g, cap, cur, rfl, hg, keepB (B := 0) hgg hb, rest⟩
theorem BookIs.later {w w' : World} {B b : Nat} {vl vw : Value} {Ls Ws : List Value} {n : Int} (h : BookIs w B b vl vw Ls Ws n) (hb : Below w.heap.size w w') : BookIs w' B b vl vw Ls Ws n := ⟨keepB (B := 0) h.blk hb, own_later h.ol hb, own_later h.ow hb, h.ne⟩
theorem RowAt.lt {w : World} {A : Option Addr} {l : List Int} (h : RowAt w A l) (g : Nat) (hg : A = some ⟨g, 0, none⟩) : g < w.heap.size := by
  rcases h with ⟨_, rfl⟩ | ⟨g', cur, rfl, hh, _⟩
  · cases hg
  · injection hg with hg; injection hg with hg _ _; subst hg; exact blk_lt hh
theorem RowAt.later {w w' : World} {A : Option Addr} {l : List Int} (h : RowAt w A l) (hb : Below w.heap.size w w') : RowAt w' A l := h.kept ((IntKept.refl w).below hb)

set_option maxHeartbeats 16000000 in
set_option maxRecDepth 100000 in
theorem runes_true' (s0 : ByteArray) (w : World) (he : Env w) :
    Calls Tryd.prog 4 #[.string s0] w fun e w' => e = .returned (.bool true) ∧ Below w.heap.size w w' := by
  have hsz := few_size s0 4000
  obtain ⟨s, hs⟩ : ∃ s, fewI s0 4000 = s := ⟨_, rfl⟩
  rw [hs] at hsz
  have HS := Aside0.mk hs
  obtain ⟨r, a, y, hb⟩ := run_both s (by omega)
  have HR := Aside0.mk hb.1
  have HF := Aside0.mk hb.2.1
  have HV := Aside0.mk hb.2.2.1
  have HN := Aside0.mk hb.2.2.2.1
  have HY := Aside0.mk hb.2.2.2.2.1
  have hrl : r.length ≤ 4000 := Nat.le_trans hb.2.2.2.2.2 hsz
  clear hs hb
  go_enter Tryd.func4, Tryd.ntmps4
  go_wp2_with (first
    | (go_at_call 24; (with_reducible refine (few4' s0 _).mono ?_); rintro e w1 ⟨rfl, ⟨nd, rfl⟩⟩; rw [HS.out])
    | (go_at_call 25; (with_reducible refine (HF.out _).mono ?_); rintro e w2 ⟨Aw, cw, rfl, hcw, hw2, hb2⟩; have HCW := Aside0.mk hcw; have HW2 := Aside0.mk hw2; have HB2 : Aside0 (Below w.heap.size w w2) := ⟨bl_trans (bl_drewN (Below.refl _ _) _) hb2⟩; clear hcw hw2 hb2))
  generalize hwb : w2.alloc (.cells #[.int .i64 a, .int .i64 y] 46) = wb
  have hszb : w2.heap.size + 1 = wb.heap.size := by rw [← hwb]; exact (Array.size_push _).symm
  have HBD := Aside0.mk (show wb.heap[w2.heap.size]? = some (.cells #[.int .i64 a, .int .i64 y] 46 (0, 0)) from (by rw [← hwb]; exact heap_alloc_new w2 _))
  have HCB := Aside0.mk (show Kd.C (Kd.int .i64) wb Aw r.length r from (by rw [← hwb]; exact Kd.C_alloc HW2.out _))
  have HBB := Aside0.mk (show Below w.heap.size w wb from (by rw [← hwb]; exact bl_alloc HB2.out _))
  clear HW2 HB2 hwb
  rw [hszb]
  generalize hbd : w2.heap.size = bd at HBD
  clear hszb hbd
  have HBK := Aside0.mk (show BookIs (wb.alloc (.cells #[.slice none 0 0, .slice none 0 0, .int .i64 0, .bool false] 51)) wb.heap.size wb.heap.size (.slice none 0 0) (.slice none 0 0) [] [] 0 from ⟨heap_alloc_new wb _, own_nil _ _ _ _, own_nil _ _ _ _, (by intro k hk; simp [Value.ownBlock] at hk)⟩)
  have HL0 : Aside0 (Below wb.heap.size wb (wb.alloc (.cells #[.slice none 0 0, .slice none 0 0, .int .i64 0, .bool false] 51))) := ⟨bl_alloc (Below.refl _ _) _⟩
  refine wp_loop_rounds 3 ?_
  rw [rounds_succ]
  go_wp2_with (first
    | (go_at_call 12; (with_reducible refine (HR.out _).mono ?_); rintro e w6 ⟨A0, v0, rfl, ha6, hg6, he6, hb6⟩; have HG0 := Aside0.mk hg6; have HE := Aside0.mk he6; have HA0 := Aside0.mk ha6; have HBK6 := Aside0.mk (HBK.out.later hb6); have hl6 := bl_trans HL0.out hb6; have HL6 := Aside0.mk hl6; have hd6 := keepB (B := 0) HBD.out hl6; have m0 := cellB hd6 0 _ rfl; have m1 := cellB hd6 1 _ rfl; have HB6 := Aside0.mk hb6; clear ha6 hg6 he6 hb6 hl6 hd6)
    | (go_at_call 26; (with_reducible refine (sm_any v0 a y _ HE.out (he.below (bl_trans HBB.out HL6.out) he.size) HN.out HY.out).mono ?_); rintro e w7 ⟨rfl, hb7⟩; have HA7 := Aside0.mk (HA0.out.later hb7); have HBK7 := Aside0.mk (HBK6.out.later hb7); have HL7 := Aside0.mk (bl_trans HL6.out hb7); have HB7 := Aside0.mk hb7; clear hb7)
    | (go_at_call 13; (with_reducible refine (same_hit A0 Aw r r.length cw _ (by omega) (HA7.out.C (by omega)) (Nat.le_refl _) (Kd.C_below HCB.out HL7.out) HCW.out).mono ?_); rintro e w8 ⟨rfl, ⟨nd8, rfl⟩⟩)
    | (go_at_call 27; (refine (keep_any wb.heap.size wb.heap.size (.slice none 0 0) (.slice none 0 0) _ _ _ A0 r _ (HBK7.out.drewN _) (Nat.le_refl _) HL7.out.size (by simp) rfl (by omega) (HA7.out.drewN _) hrl).mono ?_); rintro e w9 ⟨rfl, vl1, vw1, C0, d0, hd9, hr9, hk9, hb9, hi9⟩; have HBK9 := Aside0.mk hk9; have HD0 := Aside0.mk hd9; have HC9 := Aside0.mk hr9; have HI9 := Aside0.mk hi9; have HL9 := Aside0.mk ((below_drewN HL7.out _).trans hb9); clear hd9 hr9 hk9 hb9 hi9))
  have HBK := HBK9
  have HL1 := HL9
  have HO0 := Aside0.mk (fun g h => Nat.le_trans HL0.out.size (HG0.out g h))
  have HP0 := Aside0.mk ((HA7.out.drewN nd8).kept HI9.out)
  have HQ0 := HC9
  have HLT := Aside0.mk HP0.out.lt
  clear HE HA0 HBK6 HL6 HB6 HBK7 HL7 HB7 HA7 HBK9 HL9 HI9 HC9 HG0 HL0 m0 m1
  rw [rounds_succ]
  go_wp2_with (first
    | (go_at_call 12; (with_reducible refine (HR.out _).mono ?_); rintro e w6 ⟨A1, v1, rfl, ha6, hg6, he6, hb6⟩; have HG1 := Aside0.mk hg6; have HE := Aside0.mk he6; have HA1 := Aside0.mk ha6; have HBK6 := Aside0.mk (HBK.out.later hb6); have hl6 := bl_trans HL1.out hb6; have HL6 := Aside0.mk hl6; have hd6 := keepB (B := 0) HBD.out hl6; have m0 := cellB hd6 0 _ rfl; have m1 := cellB hd6 1 _ rfl; have HB6 := Aside0.mk hb6; clear ha6 hg6 he6 hb6 hl6 hd6)
    | (go_at_call 26; (with_reducible refine (sm_any v1 a y _ HE.out (he.below (bl_trans HBB.out HL6.out) he.size) HN.out HY.out).mono ?_); rintro e w7 ⟨rfl, hb7⟩; have HA7 := Aside0.mk (HA1.out.later hb7); have HBK7 := Aside0.mk (HBK6.out.later hb7); have HL7 := Aside0.mk (bl_trans HL6.out hb7); have HB7 := Aside0.mk hb7; clear hb7)
    | (go_at_call 13; (with_reducible refine (same_hit A1 Aw r r.length cw _ (by omega) (HA7.out.C (by omega)) (Nat.le_refl _) (Kd.C_below HCB.out HL7.out) HCW.out).mono ?_); rintro e w8 ⟨rfl, ⟨nd8, rfl⟩⟩)
    | (go_at_call 27; (refine (keep_any wb.heap.size wb.heap.size vl1 vw1 _ _ _ A1 r _ (HBK7.out.drewN _) (Nat.le_refl _) HL7.out.size (by simp) rfl (by omega) (HA7.out.drewN _) hrl).mono ?_); rintro e w9 ⟨rfl, vl2, vw2, C1, d1, hd9, hr9, hk9, hb9, hi9⟩; have HBK9 := Aside0.mk hk9; have HD1 := Aside0.mk hd9; have HC9 := Aside0.mk hr9; have HI9 := Aside0.mk hi9; have HL9 := Aside0.mk ((below_drewN HL7.out _).trans hb9); clear hd9 hr9 hk9 hb9 hi9))
  have HBK := HBK9
  have HL2 := HL9
  have HO1 := Aside0.mk (fun g h => Nat.le_trans HL1.out.size (HG1.out g h))
  have HP1 := Aside0.mk ((HA7.out.drewN nd8).kept HI9.out)
  have HQ1 := HC9
  have HP0 := Aside0.mk (((HP0.out.later (Below.trans HB6.out (HB7.out.mono HB6.out.size))).drewN nd8).kept HI9.out)
  have HQ0 := Aside0.mk (((HQ0.out.later (Below.trans HB6.out (HB7.out.mono HB6.out.size))).drewN nd8).kept HI9.out)
  have HNE := Aside0.mk (fun g g' h0 h1 => Nat.ne_of_lt (Nat.lt_of_lt_of_le (HLT.out g h0) (HG1.out g' h1)))
  clear HE HA1 HBK6 HL6 HB6 HBK7 HL7 HB7 HA7 HBK9 HL9 HI9 HC9 HG1 HL1 m0 m1
  rw [rounds_succ]
  have m1 := cellB (keepB (B := 0) HBD.out HL2.out) 1 _ rfl
  have HL2' := HL2
  have hAP : ∀ n : Nat, Calls Tryd.prog 29 #[.pointer (some ⟨wb.heap.size, 0, none⟩), .func (.func 30) #[] #[]] (w9.drewN n) fun e w' => e = .returned (.bool true) ∧ Below w.heap.size w w' := fun n =>
    (apart_any wb.heap.size wb.heap.size vl2 vw2 A0 A1 C0 C1 d0 d1 r _ (w9.drewN n) (HBK.out.drewN n) (Nat.le_refl _) HL2.out.size HO0.out HO1.out HNE.out hrl HD0.out HD1.out (HP0.out.drewN n) (HP1.out.drewN n) (HQ0.out.drewN n) (HQ1.out.drewN n)).mono fun e w' h => ⟨h.1, bl_trans HBB.out ((below_drewN HL2.out n).trans h.2)⟩
  have HAP := Aside0.mk hAP
  clear hAP HBK HL2 HL2' HO0 HO1 HNE HD0 HD1 HP0 HP1 HQ0 HQ1 HLT HCB HCW HBD HR HF HN HS
  go_wp2
  by_cases hy : y = 0
  · have HT := Aside0.mk (show ∀ w : World, Calls Tryd.prog 28 #[.string s] w fun e w' => e = .returned (.bool true) ∧ Drawn0 w w' from by have h := HV.out; rw [hy] at h; exact h)
    have q1 : (y = 0) = True := eq_true hy
    have q2 : (y == 0) = true := by rw [hy]; rfl
    clear HV HY hy
    go_region_with (first
      | (go_at_call 28; (refine (HT.out _).mono ?_); rintro e wv ⟨rfl, ⟨ndv, rfl⟩⟩)
      | (go_at_call 29; (refine (HAP.out _).mono ?_); rintro e wa ⟨rfl, hba⟩)
      | (go_at_call 3; (refine (runs_later w _ he hba).mono ?_); rintro e w9 ⟨rfl, hc9⟩))
    all_goals go_wp2
    all_goals (go_ret; exact ⟨rfl, hc9⟩)
  · have hyb : (y == 0) = false := by rw [beq_eq_false_iff_ne]; exact hy
    have HT := Aside0.mk (show ∀ w : World, Calls Tryd.prog 28 #[.string s] w fun e w' => e = .returned (.bool false) ∧ Drawn0 w w' from by have h := HV.out; rw [hyb] at h; exact h)
    have q1 : (y = 0) = False := eq_false hy
    have q2 : (y == 0) = false := hyb
    clear HV HY hy hyb
    go_region_with (first
      | (go_at_call 28; (refine (HT.out _).mono ?_); rintro e wv ⟨rfl, ⟨ndv, rfl⟩⟩)
      | (go_at_call 29; (refine (HAP.out _).mono ?_); rintro e wa ⟨rfl, hba⟩)
      | (go_at_call 3; (refine (runs_later w _ he hba).mono ?_); rintro e w9 ⟨rfl, hc9⟩))
    all_goals go_wp2
    all_goals (go_ret; exact ⟨rfl, hc9⟩)
end Go.Proofs.YtgdfgahpjebcaaaDoor
