/-
  emendlaw1.TextBytes, walked. PRINTED by gen_byw.py.
-/
import Derived.Test.YtgdfgahpjebcaaaDoorByt
import Derived.Test.YtgdfgahpjebcaaaDoorSiz
set_option linter.unusedSimpArgs false
set_option linter.unusedVariables false
namespace Go.Proofs.YtgdfgahpjebcaaaDoor
open Go.RowKit Go.Proofs.YtgdfgahpjebcaaaDoorW.PrintWords Go.Proofs.YtgdfgahpjebcaaaDoor.PT

theorem bytes_at (A : Option Addr) (c : Nat) (l : List Int) (w : World) (hl : l.length ≤ 17592186000000) (hr : Kd.C (Kd.int .i64) w A l.length l) (hc : l.length ≤ c) (x : ByteArray) (n : Int) (hb : bytesS l = (x, n)) :
    Calls Tryd.prog 15 #[.slice A l.length c] w fun e w' => e = .returned (.tuple #[.string x, .int .i64 n]) ∧ Below w.heap.size w w' := by
  have k := bytes_any A c l w hr hc (by omega)
  rw [hb] at k; exact k
theorem roomy_cut (B : Option Addr) (d : Nat) (l : List Int) (m : Int) (hd : l.length + 80 ≤ d) :
    (∀ W : World, (Instr.slice 22 (.slice B (l.length + 80) d) none (some (.int .i64 (l.length : Int))) none).run Tryd.prog W = .ok (.slice B l.length d) W) ∧
    (∀ w : World, Kd.C (Kd.int .i64) w B (roomy l m).length (roomy l m) → Kd.C (Kd.int .i64) w B l.length l) := by
  have hlen := roomy_length l m
  have htk := roomy_take l m
  have hsl := print_take_int (k := .i64) 22 3 Tryd.underlying22 (info_parts infoInt).choose_spec.1 (info_parts infoInt).choose_spec.2.2.1 B d (roomy l m) (l.length : Int) (by omega) (by omega) (by omega)
  rw [Int.toNat_natCast, htk, hlen] at hsl
  refine ⟨hsl.1, fun w hb => ?_⟩
  have hr := int_reads hb
  rw [hlen] at hr
  exact Kd.C_of_reads (enc := Value.int .i64) (d := (0 : Int)) (h1 := fun _ => rfl) (hsl.2.1 w hr)


set_option maxHeartbeats 8000000 in
set_option maxRecDepth 100000 in
theorem byw_f (A0 : Option Addr) (c0 : Nat) (l0 l : List Int) (w : World) (he : Env w) (hcm : c0 ≤ 9223372036854775807)
    (hlong : ¬ 500 < l0.length ∧ l = l0) (hl0 : l0.length ≤ c0) (hl : l.length ≤ 500) (hr : Kd.C (Kd.int .i64) w A0 l.length l) :
    Calls Tryd.prog 5 #[.slice A0 l0.length c0] w fun e w' => e = .returned (.bool true) ∧ Below w.heap.size w w' := by
  have HC := Aside0.mk hr
  obtain ⟨x, n, hxn⟩ : ∃ x n, bytesS l = (x, n) := ⟨_, _, rfl⟩
  have HXN := Aside0.mk hxn
  obtain ⟨hlong, rfl⟩ := hlong
  have hlc := hl0
  have q1 : ((l.length : Int) > 500) = False := eq_false (by omega)
  have HLC := Aside0.mk hlc
  have e1 : (x.toList == x.toList) = true := by simp
  have e3 : (n == n) = true := by simp
  clear hr hl0 hlc hlong hxn
  go_enter Tryd.func5, Tryd.ntmps5
  go_wp2_with (first
    | (go_at_call 31; (with_reducible refine (roomy_any A0 c0 l (-77) _ HC.out (by omega)).mono ?_); rintro e w1 ⟨B, rfl, hr1, hb1⟩; have HR1 := Aside0.mk hr1; have HB1 := Aside0.mk hb1; have hcu := (roomy_cut B (l.length + 80) l (-77) (Nat.le_refl _)).1; clear hr1 hb1)
    | (go_at_call 15; (with_reducible refine (bytes_at B (l.length + 80) l _ (by omega) (by exact (roomy_cut B (l.length + 80) l (-77) (Nat.le_refl _)).2 _ HR1.out) (by omega) x n HXN.out).mono ?_); rintro e w2 ⟨rfl, hb2⟩; have HB2 : Aside0 (Below w.heap.size w w2) := ⟨bl_trans HB1.out hb2⟩; have HR2 := Aside0.mk (Kd.C_below HR1.out hb2); clear hb2 hcu)
    | (go_at_call 32; (with_reducible refine (rbytes_any A0 c0 l _ (by omega) (by exact Kd.C_below HC.out HB2.out) HLC.out x n HXN.out).mono ?_); rintro e w3 ⟨rfl, hb3⟩; have HB3 : Aside0 (Below w.heap.size w w3) := ⟨bl_trans HB2.out hb3⟩; have HR3 := Aside0.mk (Kd.C_below HR2.out hb3); clear hb3)
    | (go_at_call 33; (with_reducible refine (intact_any A0 B c0 (l.length + 80) l (-77) _ (by exact HR3.out) (Nat.le_refl _) (by exact Kd.C_below HC.out HB3.out) HLC.out (by omega)).mono ?_); rintro e w4 ⟨rfl, hb4⟩; have HB4 : Aside0 (Below w.heap.size w w4) := ⟨bl_trans HB3.out hb4⟩; clear hb4)
    | (go_at_call 3; (with_reducible refine (runs_later w _ he ?_).mono ?_); (focus exact HB4.out); rintro e w5 ⟨rfl, hc5⟩))
  go_ret
  exact ⟨rfl, hc5⟩

set_option maxHeartbeats 8000000 in
set_option maxRecDepth 100000 in
theorem byw_t (A0 : Option Addr) (c0 : Nat) (l0 l : List Int) (w : World) (he : Env w) (hcm : c0 ≤ 9223372036854775807)
    (hlong : 500 < l0.length ∧ l = l0.take 500) (hl0 : l0.length ≤ c0) (hl : l.length ≤ 500) (hr : Kd.C (Kd.int .i64) w A0 l.length l) :
    Calls Tryd.prog 5 #[.slice A0 l0.length c0] w fun e w' => e = .returned (.bool true) ∧ Below w.heap.size w w' := by
  have HC := Aside0.mk hr
  obtain ⟨x, n, hxn⟩ : ∃ x n, bytesS l = (x, n) := ⟨_, _, rfl⟩
  have HXN := Aside0.mk hxn
  obtain ⟨hlong, rfl⟩ := hlong
  have hlt : (l0.take 500).length = 500 := by rw [List.length_take]; omega
  have hsl := (print_take_int (k := .i64) 22 3 Tryd.underlying22 (info_parts infoInt).choose_spec.1 (info_parts infoInt).choose_spec.2.2.1 A0 c0 l0 500 (by decide) (by omega) hl0).1
  rw [show ((500 : Int)).toNat = 500 from rfl] at hsl
  obtain ⟨l, hll⟩ : ∃ l, l0.take 500 = l := ⟨_, rfl⟩
  rw [hll] at hsl HC HXN hl hlt
  have hlc : l.length ≤ c0 := by omega
  have q1 : ((l0.length : Int) > 500) = True := eq_true (by omega)
  have HLC := Aside0.mk hlc
  have e1 : (x.toList == x.toList) = true := by simp
  have e3 : (n == n) = true := by simp
  clear hr hl0 hlc hlong hxn hll hlt
  go_enter Tryd.func5, Tryd.ntmps5
  go_wp2_with (first
    | (go_at_call 31; (with_reducible refine (roomy_any A0 c0 l (-77) _ HC.out (by omega)).mono ?_); rintro e w1 ⟨B, rfl, hr1, hb1⟩; have HR1 := Aside0.mk hr1; have HB1 := Aside0.mk hb1; have hcu := (roomy_cut B (l.length + 80) l (-77) (Nat.le_refl _)).1; clear hr1 hb1)
    | (go_at_call 15; (with_reducible refine (bytes_at B (l.length + 80) l _ (by omega) (by exact (roomy_cut B (l.length + 80) l (-77) (Nat.le_refl _)).2 _ HR1.out) (by omega) x n HXN.out).mono ?_); rintro e w2 ⟨rfl, hb2⟩; have HB2 : Aside0 (Below w.heap.size w w2) := ⟨bl_trans HB1.out hb2⟩; have HR2 := Aside0.mk (Kd.C_below HR1.out hb2); clear hb2 hcu)
    | (go_at_call 32; (with_reducible refine (rbytes_any A0 c0 l _ (by omega) (by exact Kd.C_below HC.out HB2.out) HLC.out x n HXN.out).mono ?_); rintro e w3 ⟨rfl, hb3⟩; have HB3 : Aside0 (Below w.heap.size w w3) := ⟨bl_trans HB2.out hb3⟩; have HR3 := Aside0.mk (Kd.C_below HR2.out hb3); clear hb3)
    | (go_at_call 33; (with_reducible refine (intact_any A0 B c0 (l.length + 80) l (-77) _ (by exact HR3.out) (Nat.le_refl _) (by exact Kd.C_below HC.out HB3.out) HLC.out (by omega)).mono ?_); rintro e w4 ⟨rfl, hb4⟩; have HB4 : Aside0 (Below w.heap.size w w4) := ⟨bl_trans HB3.out hb4⟩; clear hb4)
    | (go_at_call 3; (with_reducible refine (runs_later w _ he ?_).mono ?_); (focus exact HB4.out); rintro e w5 ⟨rfl, hc5⟩))
  go_ret
  exact ⟨rfl, hc5⟩

/-- TextBytes is true. -/
theorem bytes_true (A : Option Addr) (c : Nat) (l0 : List Int) (w : World) (he : Env w) (hr : Kd.C (Kd.int .i64) w A l0.length l0) (hc : l0.length ≤ c) (hcm : c ≤ 9223372036854775807) (hl : l0.length * 8 ≤ 140737488351232) (hwf : ∀ x ∈ l0, (Lit.int .i64 x).wf = true) :
    Calls Tryd.prog 5 #[.slice A l0.length c] w fun e w' => e = .returned (.bool true) ∧ Below w.heap.size w w' := by
  by_cases h3 : 500 < l0.length
  · have hlt : (l0.take 500).length = 500 := by rw [List.length_take]; omega
    have hr' : Kd.C (Kd.int .i64) w A (l0.take 500).length (l0.take 500) := by
      rw [hlt]
      exact Kd.C_of_reads (enc := Value.int .i64) (d := (0 : Int)) (h1 := fun _ => rfl) ((int_reads hr).take_ 500 (by omega))
    exact byw_t A c l0 _ w he hcm ⟨h3, rfl⟩ hc (by omega) hr'
  · exact byw_f A c l0 _ w he hcm ⟨h3, rfl⟩ hc (by omega) hr
end Go.Proofs.YtgdfgahpjebcaaaDoor
