/-
  emendlaw1.TextJoined, walked.
-/
import Derived.Test.YtgdfgahpjebcaaaDoorJn
import Derived.Test.YtgdfgahpjebcaaaDoorSiz
import Derived.Test.YtgdfgahpjebcaaaDoorGap
set_option linter.unusedSimpArgs false
set_option linter.unusedVariables false
namespace Go.Proofs.YtgdfgahpjebcaaaDoor
open Go.RowKit Go.Proofs.YtgdfgahpjebcaaaDoorW.PrintWords Go.Proofs.YtgdfgahpjebcaaaDoor.PT

theorem few_calls' (s : ByteArray) (n : Nat) (m : Int) (hm : m = n) (w : World) : Calls Tryd.prog 24 #[.string s, .int .i64 m] w fun e w' => e = .returned (.string (fewI s n)) ∧ Drawn0 w w' := by
  subst hm; exact emendlaw1_few.calls s n _ w (few_f s n)
/-- What text.Runes answers, at any text. -/
def RPost (l : List Int) (er : Option Nat) (w : World) (e : Ending) (w' : World) : Prop :=
  (er = none ∧ ∃ A, e = .returned (.tuple #[.slice A l.length l.length, .nilIface]) ∧ Kd.C (Kd.int .i64) w' A l.length l ∧ Below w.heap.size w w') ∨
  (∃ a g, er = some a ∧ e = .returned (.tuple #[.slice none 0 0, .iface 75 (.pointer (some ⟨g, 0, none⟩))]) ∧ IsRef w' g a 10 ∧ w.heap.size ≤ g ∧ Below w.heap.size w w')
theorem scan_len {s : ByteArray} {i : Nat} {l : List Int} {e : Option Nat} (h : Scan s i l e) : l.length + i ≤ s.size := by
  have h2 := h.says.2.2
  have h3 := h.says.2.1
  have hl := (encs_len l).1
  have hi := h.le
  cases e with
  | none =>
    have := congrArg List.length (h3 rfl)
    rw [List.length_drop, bytesOf_length] at this
    omega
  | some a =>
    have := h2 a rfl
    omega
theorem runes_any (s : ByteArray) (l : List Int) (er : Option Nat) (w : World) (hs : s.size ≤ 17592186000000) (h : Scan s 0 l er) :
    Calls Tryd.prog 12 #[.string s] w (RPost l er w) := by
  cases er with
  | none =>
    refine (runes_ok s l w hs h).mono fun e w' ⟨v, he, hc, hb⟩ => ?_
    have := scan_len h
    obtain ⟨A, rfl, hA⟩ := cut_C hc (by omega)
    exact .inl ⟨rfl, A, he, hA, hb⟩
  | some a =>
    refine (runes_bad s a l w (by omega) h).mono fun e w' ⟨g, he, h1, h2, h3⟩ => ?_
    exact .inr ⟨a, g, rfl, he, h1, h2, h3⟩

theorem runes_some (s : ByteArray) (l : List Int) (er : Option Nat) (w : World) (hs : s.size ≤ 17592186000000) (h : Scan s 0 l er) :
    Calls Tryd.prog 12 #[.string s] w fun e w' => ∃ v x, e = .returned (.tuple #[v, x]) ∧ Below w.heap.size w w' :=
  (runes_any s l er w hs h).mono fun e w' hp => by
    rcases hp with ⟨_, A, he, _, hb⟩ | ⟨a, g, _, he, _, _, hb⟩
    · exact ⟨_, _, he, hb⟩
    · exact ⟨_, _, he, hb⟩
theorem joined_same {w3 w5 : World} {A3 : Option Addr} {v5 : Value} {la lb lz : List Int} (hz : la ++ lb = lz) (hl : lz.length ≤ 140737488355328) (ho : w5.ownsRow w3.heap.size 3 1 v5 ([] ++ la ++ lb).length (nums .i64 ([] ++ la ++ lb))) (h3 : Kd.C (Kd.int .i64) w3 A3 lz.length lz) (hb : Below w3.heap.size w3 w5) :
    Calls Tryd.prog 13 #[.slice A3 lz.length lz.length, v5] w5 fun e w' => e = .returned (.bool true) ∧ Drawn0 w5 w' := by
  rw [List.nil_append, hz] at ho
  obtain ⟨A, c, rfl, hc, hr⟩ := own_C ho
  exact same_hit A3 A lz lz.length c w5 hl (Kd.C_below h3 hb) (Nat.le_refl _) hr hc

set_option maxHeartbeats 8000000 in
set_option maxRecDepth 100000 in
theorem joined_ok (a0 b0 : ByteArray) (w : World) (he : Env w) (la lb : List Int) (ha : Scan (fewI a0 1000) 0 la none) (hb : Scan (fewI b0 1000) 0 lb none) :
    Calls Tryd.prog 10 #[.string a0, .string b0] w fun e w' => e = .returned (.bool true) ∧ Below w.heap.size w w' := by
  have hsa := few_size a0 1000
  have hsb := few_size b0 1000
  obtain ⟨a, hs⟩ : ∃ s, fewI a0 1000 = s := ⟨_, rfl⟩
  obtain ⟨b, ht⟩ : ∃ s, fewI b0 1000 = s := ⟨_, rfl⟩
  rw [hs] at ha hsa
  rw [ht] at hb hsb
  have HSA := Aside0.mk hs
  have HSB := Aside0.mk ht
  have hz := scan_join ha hb
  have hla := scan_len ha
  have hlb := scan_len hb
  have hsz : (a ++ b).size ≤ 17592186000000 := by rw [app_size]; omega
  obtain ⟨lz, hlz⟩ : ∃ lz, la ++ lb = lz := ⟨_, rfl⟩
  have hl : lz.length ≤ 140737488355328 := by rw [← hlz, List.length_append]; omega
  have HLZ := Aside0.mk hlz
  rw [hlz] at hz
  have HA := Aside0.mk (fun w => runes_any a la none w (by omega) ha)
  have HB := Aside0.mk (fun w => runes_any b lb none w (by omega) hb)
  have HZ := Aside0.mk (fun w => runes_any (a ++ b) lz none w hsz hz)
  have hap : a.size + b.size ≤ 9223372036854775807 := by omega
  clear hs ht ha hb hz hsz hlz
  go_enter Tryd.func10, Tryd.ntmps10
  go_wp2_with (first
    | (go_at_call 24; (with_reducible refine (few_calls' a0 1000 1000 rfl _).mono ?_); rintro e w1 ⟨rfl, ⟨nd, rfl⟩⟩; rw [HSA.out])
    | (go_at_call 24; (with_reducible refine (few_calls' b0 1000 1000 rfl _).mono ?_); rintro e w1 ⟨rfl, ⟨nd2, rfl⟩⟩; rw [HSB.out])
    | (go_at_call 12; (with_reducible refine (HA.out _).mono ?_); rintro e w1 hp1; obtain ⟨_, A1, rfl, hr1, hb1⟩ := Or.resolve_right hp1 (fun ⟨_, _, h, _⟩ => by cases h); clear hp1; have HR1 := Aside0.mk hr1; have HB1 : Aside0 (Below w.heap.size w w1) := ⟨bl_trans (bl_drewN (Below.refl _ _) _) hb1⟩; clear hr1 hb1)
    | (go_at_call 12; (with_reducible refine (HB.out _).mono ?_); rintro e w2 hp2; obtain ⟨_, A2, rfl, hr2, hb2⟩ := Or.resolve_right hp2 (fun ⟨_, _, h, _⟩ => by cases h); clear hp2; have HR1' := Aside0.mk (Kd.C_below HR1.out hb2); have HR2 := Aside0.mk hr2; have HB2 : Aside0 (Below w.heap.size w w2) := ⟨bl_trans HB1.out hb2⟩; clear hr2 hb2)
    | (go_at_call 12; (with_reducible refine (HZ.out _).mono ?_); rintro e w3 hp3; obtain ⟨_, A3, rfl, hr3, hb3⟩ := Or.resolve_right hp3 (fun ⟨_, _, h, _⟩ => by cases h); clear hp3; have HR1'' := Aside0.mk (Kd.C_below HR1'.out hb3); have HR2' := Aside0.mk (Kd.C_below HR2.out hb3); have HR3 := Aside0.mk hr3; have HB3 : Aside0 (Below w.heap.size w w3) := ⟨bl_trans HB2.out hb3⟩; have hw3 := HB3.out.size; clear hr3 hb3)
    | (at_builtin; refine app_row_g (w0 := w3) w3.heap.size (by rfl) (.tmp 43) (.tmp 44) 22 3 .i64 8 rfl Tryd.underlying22 infoInt (by decide) _ [] la A1 la.length la.length rfl rfl (by exact own_lit w3 w3.heap.size 3 .i64 [] (Nat.le_refl _) (by decide)) (by exact int_reads (Kd.C_alloc HR1''.out _)) (by exact bl_alloc (Below.refl _ _) _) (by simp) (by simp; omega) ?_; intro v4 w4 ho4 hb4 hg4; have HO4 := Aside0.mk ho4; have HB4 := Aside0.mk hb4; have hw4 := hb4.size; clear ho4 hb4)
    | (at_builtin; refine app_row_g (w0 := w3) w3.heap.size (by rfl) (.tmp 45) (.tmp 46) 22 3 .i64 8 rfl Tryd.underlying22 infoInt (by decide) _ _ lb A2 lb.length lb.length rfl rfl (by exact HO4.out) (by exact int_reads (Kd.C_below HR2'.out HB4.out)) (by exact HB4.out) (by exact hw4) (by simp; omega) ?_; intro v5 w5 ho5 hb5 hg5; have HO5 := Aside0.mk ho5; have HB5 := Aside0.mk hb5; clear ho5 hb5)
    | (go_at_call 13; (with_reducible refine (joined_same HLZ.out hl HO5.out HR3.out HB5.out).mono ?_); rintro e w6 ⟨rfl, ⟨nd6, rfl⟩⟩)
    | (go_at_call 3; (with_reducible refine (runs_later w _ he ?_).mono ?_); (focus exact bl_drewN (bl_trans HB3.out HB5.out) _); rintro e w7 ⟨rfl, hc7⟩))
  go_ret
  exact ⟨rfl, hc7⟩

set_option maxHeartbeats 8000000 in
set_option maxRecDepth 100000 in
theorem joined_none (a0 b0 : ByteArray) (w : World) (he : Env w) (la lb : List Int) (k : Nat) (eb : Option Nat) (ha : Scan (fewI a0 1000) 0 la (some k)) (hb : Scan (fewI b0 1000) 0 lb eb) :
    Calls Tryd.prog 10 #[.string a0, .string b0] w fun e w' => e = .returned (.bool true) ∧ Below w.heap.size w w' := by
  have hsa := few_size a0 1000
  have hsb := few_size b0 1000
  obtain ⟨a, hs⟩ : ∃ s, fewI a0 1000 = s := ⟨_, rfl⟩
  obtain ⟨b, ht⟩ : ∃ s, fewI b0 1000 = s := ⟨_, rfl⟩
  rw [hs] at ha hsa
  rw [ht] at hb hsb
  have HSA := Aside0.mk hs
  have HSB := Aside0.mk ht
  have hsz : (a ++ b).size ≤ 17592186000000 := by rw [app_size]; omega
  obtain ⟨lz, ez, hz⟩ := scan_exists (a ++ b) _ 0 (Nat.zero_le _) rfl
  have HA := Aside0.mk (fun w => runes_bad a k la w (by omega) ha)
  have HB := Aside0.mk (fun w => runes_some b lb eb w (by omega) hb)
  have HZ := Aside0.mk (fun w => runes_some (a ++ b) lz ez w hsz hz)
  have hap : a.size + b.size ≤ 9223372036854775807 := by omega
  clear hs ht ha hb hz hsz
  go_enter Tryd.func10, Tryd.ntmps10
  go_wp2_with (first
    | (go_at_call 24; (with_reducible refine (few_calls' a0 1000 1000 rfl _).mono ?_); rintro e w1 ⟨rfl, ⟨nd, rfl⟩⟩; rw [HSA.out])
    | (go_at_call 24; (with_reducible refine (few_calls' b0 1000 1000 rfl _).mono ?_); rintro e w1 ⟨rfl, ⟨nd2, rfl⟩⟩; rw [HSB.out])
    | (go_at_call 12; (with_reducible refine (HA.out _).mono ?_); rintro e w1 ⟨g1, rfl, hrf1, hg1, hb1⟩; have HB1 : Aside0 (Below w.heap.size w w1) := ⟨bl_trans (bl_drewN (Below.refl _ _) _) hb1⟩; clear hrf1 hg1 hb1)
    | (go_at_call 12; (with_reducible refine (HB.out _).mono ?_); rintro e w2 ⟨v2, x2, rfl, hb2⟩; have HB2 : Aside0 (Below w.heap.size w w2) := ⟨bl_trans HB1.out hb2⟩; clear hb2)
    | (go_at_call 12; (with_reducible refine (HZ.out _).mono ?_); rintro e w3 ⟨v3, x3, rfl, hb3⟩; have HB3 : Aside0 (Below w.heap.size w w3) := ⟨bl_trans HB2.out hb3⟩; clear hb3)
    | (go_at_call 3; (with_reducible refine (runs_later w _ he ?_).mono ?_); (focus exact bl_alloc HB3.out _); rintro e w7 ⟨rfl, hc7⟩))
  go_ret
  exact ⟨rfl, hc7⟩

theorem as_fresh (g : Nat) (at_ why : Int) (w : World) (h : IsRef w g at_ why) (he : Env w) :
    Calls Tryd.prog 39 #[.iface 75 (.pointer (some ⟨g, 0, none⟩)), .iface 77 (.pointer (some ⟨w.heap.size, 0, none⟩))] (w.alloc (.cells #[.pointer none] 75)) fun e w' => e = .returned (.bool true) ∧ w'.heap[w.heap.size]? = some (.cells #[.pointer (some ⟨g, 0, none⟩)] 75 (0, 0)) ∧ Below w.heap.size w w' := by
  have hB : Below w.heap.size w (w.alloc (.cells #[.pointer none] 75)) := bl_alloc (Below.refl _ _) _
  have he1 := he.below hB he.size
  have hr := heap_alloc_new w (.cells #[.pointer none] 75)
  refine (as_hit ⟨g, 0, none⟩ ⟨w.heap.size, 0, none⟩ (.pointer none) _ he1.handle ((Lib.cell_of_heap hr 0).trans rfl) (Lib.frozen_of_heap hr 0)).mono ?_
  rintro e w' ⟨rfl, rfl⟩
  exact ⟨rfl, as_target ⟨g, 0, none⟩ _ _ _ _ hr, hB.trans (as_below _ _ _ (Nat.le_refl _) (by simp))⟩

set_option maxHeartbeats 8000000 in
set_option maxRecDepth 100000 in
theorem joined_part (a0 b0 : ByteArray) (w : World) (he : Env w) (la lb : List Int) (k : Nat) (ha : Scan (fewI a0 1000) 0 la none) (hb : Scan (fewI b0 1000) 0 lb (some k)) :
    Calls Tryd.prog 10 #[.string a0, .string b0] w fun e w' => e = .returned (.bool true) ∧ Below w.heap.size w w' := by
  have hsa := few_size a0 1000
  have hsb := few_size b0 1000
  obtain ⟨a, hs⟩ : ∃ s, fewI a0 1000 = s := ⟨_, rfl⟩
  obtain ⟨b, ht⟩ : ∃ s, fewI b0 1000 = s := ⟨_, rfl⟩
  rw [hs] at ha hsa
  rw [ht] at hb hsb
  have HSA := Aside0.mk hs
  have HSB := Aside0.mk ht
  have hsz : (a ++ b).size ≤ 17592186000000 := by rw [app_size]; omega
  have hz : Scan (a ++ b) 0 (la ++ lb) (some (a.size + k)) := scan_join ha hb
  have hk := (hb.says.2.2 k rfl).2.1
  have HA := Aside0.mk (fun w => runes_any a la none w (by omega) ha)
  have HB := Aside0.mk (fun w => runes_bad b k lb w (by omega) hb)
  have HZ := Aside0.mk (fun w => runes_bad (a ++ b) (a.size + k) (la ++ lb) w (by omega) hz)
  have hap : a.size + b.size ≤ 9223372036854775807 := by omega
  clear hs ht ha hb hz hsz
  go_enter Tryd.func10, Tryd.ntmps10
  go_wp2_with (first
    | (go_at_call 24; (with_reducible refine (few_calls' a0 1000 1000 rfl _).mono ?_); rintro e w1 ⟨rfl, ⟨nd, rfl⟩⟩; rw [HSA.out])
    | (go_at_call 24; (with_reducible refine (few_calls' b0 1000 1000 rfl _).mono ?_); rintro e w1 ⟨rfl, ⟨nd2, rfl⟩⟩; rw [HSB.out])
    | (go_at_call 12; (with_reducible refine (HA.out _).mono ?_); rintro e w1 hp1; obtain ⟨_, A1, rfl, hr1, hb1⟩ := Or.resolve_right hp1 (fun ⟨_, _, h, _⟩ => by cases h); clear hp1 hr1; have HB1 : Aside0 (Below w.heap.size w w1) := ⟨bl_trans (bl_drewN (Below.refl _ _) _) hb1⟩; clear hb1)
    | (go_at_call 12; (with_reducible refine (HB.out _).mono ?_); rintro e w2 ⟨g2, rfl, hrf2, hg2, hb2⟩; have HF2 := Aside0.mk hrf2; have HB2 : Aside0 (Below w.heap.size w w2) := ⟨bl_trans HB1.out hb2⟩; clear hrf2 hg2 hb2)
    | (go_at_call 12; (with_reducible refine (HZ.out _).mono ?_); rintro e w3 ⟨g3, rfl, hrf3, hg3, hb3⟩; have HF3 := Aside0.mk hrf3; have HF2' := Aside0.mk (HF2.out.below hb3 HF2.out.lt); have HB3 : Aside0 (Below w.heap.size w w3) := ⟨bl_trans HB2.out hb3⟩; clear hrf3 hg3 hb3)
    | (go_at_call 39; (with_reducible refine (as_fresh g2 (k : Int) 10 w3 HF2'.out (he.below HB3.out he.size)).mono ?_); rintro e w4 ⟨rfl, hr4, hb4⟩; have HB4 := Aside0.mk hb4; have hc4 : w4.cell? ⟨w3.heap.size, 0, none⟩ = some (.pointer (some ⟨g2, 0, none⟩)) := (Lib.cell_of_heap hr4 0).trans rfl; have hd4 := (HF2'.out.below hb4 HF2'.out.lt).c0; have HF3' : Aside0 (IsRef w4 g3 ((a.size : Int) + (k : Int)) 10) := ⟨by rw [← Int.natCast_add]; exact HF3.out.below hb4 HF3.out.lt⟩; have HBW4 : Aside0 (Below w.heap.size w w4) := ⟨bl_trans HB3.out hb4⟩; clear hr4 hb4)
    | (go_at_call 40; (with_reducible refine (refused_hit g3 ((a.size : Int) + (k : Int)) 10 _ HF3'.out (he.below HBW4.out he.size) ?_ ?_).mono ?_); (focus omega); (focus omega); rintro e w5 ⟨rfl, hb5⟩)
    | (go_at_call 3; (with_reducible refine (runs_later w _ he ?_).mono ?_); (focus exact bl_trans HBW4.out hb5); rintro e w7 ⟨rfl, hc7⟩))
  go_ret
  exact ⟨rfl, hc7⟩

/-- TextJoined is true. -/
theorem joined_true (a b : ByteArray) (w : World) (he : Env w) :
    Calls Tryd.prog 10 #[.string a, .string b] w fun e w' => e = .returned (.bool true) ∧ Below w.heap.size w w' := by
  obtain ⟨la, ea, ha⟩ := scan_exists (fewI a 1000) _ 0 (Nat.zero_le _) rfl
  obtain ⟨lb, eb, hb⟩ := scan_exists (fewI b 1000) _ 0 (Nat.zero_le _) rfl
  cases ea with
  | some k => exact joined_none a b w he la lb k eb ha hb
  | none =>
    cases eb with
    | some k => exact joined_part a b w he la lb k ha hb
    | none => exact joined_ok a b w he la lb ha hb
end Go.Proofs.YtgdfgahpjebcaaaDoor
