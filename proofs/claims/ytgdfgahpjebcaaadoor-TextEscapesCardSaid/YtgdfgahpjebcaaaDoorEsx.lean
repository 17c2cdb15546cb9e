/-
  emendlaw1.TextEscapes, walked. PRINTED by gen_esx.py.
-/
import Derived.Test.YtgdfgahpjebcaaaDoorRun
import Derived.Test.YtgdfgahpjebcaaaDoorJnw
set_option linter.unusedSimpArgs false
set_option linter.unusedVariables false
namespace Go.Proofs.YtgdfgahpjebcaaaDoor
open Go.RowKit Go.Proofs.YtgdfgahpjebcaaaDoorW.PrintWords Go.Proofs.YtgdfgahpjebcaaaDoor.PT

/-- What text.Unescape and the reference's answer, alike. -/
def UneBoth (s x : ByteArray) (a y : Int) : Prop :=
  (∀ w : World, Calls Tryd.prog 22 #[.string s] w fun e w' => ∃ v, e = .returned (.tuple #[.string x, v]) ∧ ErrIs w' v a y ∧ Below w.heap.size w w') ∧
  (∀ w : World, Calls Tryd.prog 38 #[.string s] w fun e w' => e = .returned (.tuple #[.string x, .agg #[.int .i64 a, .int .i64 y]]) ∧ Below w.heap.size w w') ∧
  (-9223372036854775808 ≤ a ∧ a ≤ 9223372036854775807) ∧ (0 ≤ y ∧ y < 100)
theorem une_both (s : ByteArray) (hs : s.size ≤ 2000) : ∃ x a y, UneBoth s x a y := by
  obtain ⟨l, er, h⟩ := scan_exists s _ 0 (Nat.zero_le _) rfl
  cases er with
  | some k =>
    have hk := (h.says.2.2 k rfl).2.1
    refine ⟨⟨#[]⟩, k, 10, fun w => ?_, fun w => runescape_bad s l k w (by omega) h, by omega, by omega⟩
    refine (unescape_bad s l k w (by omega) h).mono fun e w' hp => ?_
    rcases hp with ⟨h0, _⟩ | ⟨h0, g, he, hr, _, hb⟩
    · exact absurd h0 (show ¬ (10 : Int) = 0 by decide)
    · exact ⟨_, he, .inr ⟨h0, g, rfl, hr⟩, hb⟩
  | none =>
    have hrg := urun_range s (by omega) s.size 0 []
    refine ⟨strOfNums (uneI s none).1, (uneI s none).2.1, (uneI s none).2.2, fun w => ?_, fun w => runescape_ok s l w (by omega) h, ?_, hrg.2⟩
    · refine (unescape_ok s l w (by omega) h).mono fun e w' hp => ?_
      rcases hp with ⟨h0, he, hb⟩ | ⟨h0, g, he, hr, _, hb⟩
      · exact ⟨_, he, .inl ⟨h0, rfl⟩, hb⟩
      · have hn := urun_none s s.size 0 [] h0
        refine ⟨_, ?_, .inr ⟨h0, g, rfl, hr⟩, hb⟩
        rw [he]
        unfold uneI
        rw [hn]; rfl
    · have h1 := hrg.1
      show -9223372036854775808 ≤ (urun s s.size 0 []).2.1 ∧ (urun s s.size 0 []).2.1 ≤ 9223372036854775807
      omega
/-- What both Escapes answer, alike. -/
theorem esc_both (attr : Bool) (s : ByteArray) (hs : s.size ≤ 2000) : ∃ x n, (∀ w : World, Calls Tryd.prog 21 #[.string s, .bool attr] w fun e w' => e = .returned (.tuple #[.string x, .int .i64 n]) ∧ Below w.heap.size w w') ∧
    (∀ w : World, Calls Tryd.prog 37 #[.string s, .bool attr] w fun e w' => e = .returned (.tuple #[.string x, .int .i64 n]) ∧ Below w.heap.size w w') := by
  obtain ⟨l, er, h⟩ := scan_exists s _ 0 (Nat.zero_le _) rfl
  exact ⟨_, _, fun w => escape_any attr s l er w (by omega) h, fun w => rescape_any attr s l er w (by omega) h _ _ rfl rfl⟩
theorem few2' (s : ByteArray) (w : World) : Calls Tryd.prog 24 #[.string s, .int .i64 2000] w fun e w' => e = .returned (.string (fewI s 2000)) ∧ Drawn0 w w' := few_calls' s 2000 2000 rfl w

set_option maxHeartbeats 16000000 in
set_option maxRecDepth 100000 in
theorem escapes_true (s0 q0 : ByteArray) (w : World) (he : Env w) :
    Calls Tryd.prog 7 #[.string s0, .string q0] w fun e w' => e = .returned (.bool true) ∧ Below w.heap.size w w' := by
  have hsz := few_size s0 2000
  have hqz := few_size q0 2000
  obtain ⟨s, hs⟩ : ∃ s, fewI s0 2000 = s := ⟨_, rfl⟩
  obtain ⟨q, hq⟩ : ∃ s, fewI q0 2000 = s := ⟨_, rfl⟩
  rw [hs] at hsz
  rw [hq] at hqz
  have HS := Aside0.mk hs
  have HQ := Aside0.mk hq
  obtain ⟨x0, n0, hx0, hy0⟩ := esc_both false s hsz
  obtain ⟨x1, n1, hx1, hy1⟩ := esc_both true s hsz
  obtain ⟨u0, a0, y0, hu0⟩ := une_both s hsz
  obtain ⟨u1, a1, y1, hu1⟩ := une_both q hqz
  have HX0 := Aside0.mk hx0
  have HX1 := Aside0.mk hx1
  have HY0 := Aside0.mk hy0
  have HY1 := Aside0.mk hy1
  have HU0 := Aside0.mk hu0.1
  have HV0 := Aside0.mk hu0.2.1
  have HW0 := Aside0.mk hu0.2.2
  have HU1 := Aside0.mk hu1.1
  have HV1 := Aside0.mk hu1.2.1
  have HW1 := Aside0.mk hu1.2.2
  clear hs hq hx0 hy0 hx1 hy1 hu0 hu1
  have e0 : (x0.toList != x0.toList) = false := by simp
  have e1 : (x1.toList != x1.toList) = false := by simp
  have e2 : (n0 != n0) = false := by simp
  have e3 : (n1 != n1) = false := by simp
  have e4 : (u0.toList != u0.toList) = false := by simp
  have e5 : (u1.toList != u1.toList) = false := by simp
  go_enter Tryd.func7, Tryd.ntmps7
  go_wp2_with (first
    | (go_at_call 24; (with_reducible refine (few2' s0 _).mono ?_); rintro e w1 ⟨rfl, ⟨nd, rfl⟩⟩; rw [HS.out])
    | (go_at_call 24; (with_reducible refine (few2' q0 _).mono ?_); rintro e w1 ⟨rfl, ⟨nd2, rfl⟩⟩; rw [HQ.out]))
  go_loopg [5] 2 (fun kq v5 w' => ∃ i : Nat, v5 = .int .i64 i ∧ Aside0 (kq = 2 - i ∧ i ≤ 2) ∧ Aside0 (Below w.heap.size w w'))
  case atStart => exact ⟨0, rfl, ⟨rfl, by omega⟩, ⟨bl_drewN (Below.refl _ _) _⟩⟩
  case round =>
    obtain ⟨i, rfl, HI, HBR⟩ := hrel
    obtain ⟨hk, hi2⟩ := HI.out
    have hi : i = 0 ∨ i = 1 ∨ i = 2 := by omega
    have HK := Aside0.mk hk
    clear hk HI
    rcases hi with rfl | rfl | rfl
    · go_wp2_with (first
        | (go_at_call 21; (with_reducible refine (HX0.out _).mono ?_); rintro e w6 ⟨rfl, hb6⟩; have HB6 : Aside0 (Below w.heap.size w w6) := ⟨bl_trans HBR.out hb6⟩; clear hb6)
        | (go_at_call 37; (with_reducible refine (HY0.out _).mono ?_); rintro e w7 ⟨rfl, hb7⟩; have HB7 : Aside0 (Below w.heap.size w w7) := ⟨bl_trans HB6.out hb7⟩; clear hb7))
      go_roundg 1
      case measure => have := HK.out; omega
      case rel => exact ⟨1, by go_num, ⟨rfl, by omega⟩, ⟨HB7.out⟩⟩
    · go_wp2_with (first
        | (go_at_call 21; (with_reducible refine (HX1.out _).mono ?_); rintro e w6 ⟨rfl, hb6⟩; have HB6 : Aside0 (Below w.heap.size w w6) := ⟨bl_trans HBR.out hb6⟩; clear hb6)
        | (go_at_call 37; (with_reducible refine (HY1.out _).mono ?_); rintro e w7 ⟨rfl, hb7⟩; have HB7 : Aside0 (Below w.heap.size w w7) := ⟨bl_trans HB6.out hb7⟩; clear hb7))
      go_roundg 0
      case measure => have := HK.out; omega
      case rel => exact ⟨2, by go_num, ⟨rfl, by omega⟩, ⟨HB7.out⟩⟩
    · go_wp2
      obtain ⟨wo, hwo⟩ : ∃ wo : World, wo = wr := ⟨_, rfl⟩
      subst hwo
      go_loopg [11] 2 (fun kq v11 w' => ∃ i : Nat, v11 = .int .i64 i ∧ Aside0 (kq = 2 - i ∧ i ≤ 2) ∧ Aside0 (w'.heap[wo.heap.size]? = some (.cells #[.string s, .string q] 9 (0, 0))) ∧ Aside0 (Below w.heap.size w w'))
      case atStart => exact ⟨0, rfl, ⟨rfl, by omega⟩, ⟨heap_alloc_new wo _⟩, ⟨bl_alloc HBR.out _⟩⟩
      case round =>
        obtain ⟨i, rfl, HI, HL, HBR⟩ := hrel
        obtain ⟨hk, hi2⟩ := HI.out
        have hi : i = 0 ∨ i = 1 ∨ i = 2 := by omega
        have HK := Aside0.mk hk
        clear hk HI
        rcases hi with rfl | rfl | rfl
        · have m0 := cellN HL.out 0 (.string s) rfl
          go_wp2_with (first
            | (go_at_call 22; (with_reducible refine (HU0.out _).mono ?_); rintro e w6 ⟨v6, rfl, hv6, hb6⟩; have HE6 := Aside0.mk hv6; have hl6 := keepH (B := 0) HL.out hb6; have m1 := cellN hl6 0 (.string s) rfl; have HL6 := Aside0.mk hl6; have HB6 : Aside0 (Below w.heap.size w w6) := ⟨bl_trans HBR.out hb6⟩; clear hb6 hv6 hl6)
            | (go_at_call 38; (with_reducible refine (HV0.out _).mono ?_); rintro e w7 ⟨rfl, hb7⟩; have HE7 := Aside0.mk ((HE6.out.below hb7).below (bl_alloc (Below.refl w7.heap.size w7) (.cells #[.int .i64 a0, .int .i64 y0] 46))); have HL7 := Aside0.mk (keepH (B := 0) (keepH (B := 0) HL6.out hb7) (bl_alloc (Below.refl w7.heap.size w7) (.cells #[.int .i64 a0, .int .i64 y0] 46))); have HB7 : Aside0 (Below w.heap.size w (w7.alloc (.cells #[.int .i64 a0, .int .i64 y0] 46))) := ⟨bl_alloc (bl_trans HB6.out hb7) _⟩; clear hb7)
            | (go_at_call 26; (with_reducible refine (same_any v6 a0 y0 _ HE7.out (he.below HB7.out he.size) HW0.out.1 HW0.out.2).mono ?_); rintro e w8 ⟨rfl, hb8⟩; have HB8 : Aside0 (Below w.heap.size w w8) := ⟨bl_trans HB7.out hb8⟩; have HL8 := Aside0.mk (keepH (B := 0) HL7.out hb8); clear hb8))
          go_roundg 1
          case measure => have := HK.out; omega
          case rel => exact ⟨1, by go_num, ⟨rfl, by omega⟩, ⟨HL8.out⟩, ⟨HB8.out⟩⟩
        · have m0 := cellN HL.out 1 (.string q) rfl
          go_wp2_with (first
            | (go_at_call 22; (with_reducible refine (HU1.out _).mono ?_); rintro e w6 ⟨v6, rfl, hv6, hb6⟩; have HE6 := Aside0.mk hv6; have hl6 := keepH (B := 0) HL.out hb6; have m1 := cellN hl6 1 (.string q) rfl; have HL6 := Aside0.mk hl6; have HB6 : Aside0 (Below w.heap.size w w6) := ⟨bl_trans HBR.out hb6⟩; clear hb6 hv6 hl6)
            | (go_at_call 38; (with_reducible refine (HV1.out _).mono ?_); rintro e w7 ⟨rfl, hb7⟩; have HE7 := Aside0.mk ((HE6.out.below hb7).below (bl_alloc (Below.refl w7.heap.size w7) (.cells #[.int .i64 a1, .int .i64 y1] 46))); have HL7 := Aside0.mk (keepH (B := 0) (keepH (B := 0) HL6.out hb7) (bl_alloc (Below.refl w7.heap.size w7) (.cells #[.int .i64 a1, .int .i64 y1] 46))); have HB7 : Aside0 (Below w.heap.size w (w7.alloc (.cells #[.int .i64 a1, .int .i64 y1] 46))) := ⟨bl_alloc (bl_trans HB6.out hb7) _⟩; clear hb7)
            | (go_at_call 26; (with_reducible refine (same_any v6 a1 y1 _ HE7.out (he.below HB7.out he.size) HW1.out.1 HW1.out.2).mono ?_); rintro e w8 ⟨rfl, hb8⟩; have HB8 : Aside0 (Below w.heap.size w w8) := ⟨bl_trans HB7.out hb8⟩; have HL8 := Aside0.mk (keepH (B := 0) HL7.out hb8); clear hb8))
          go_roundg 0
          case measure => have := HK.out; omega
          case rel => exact ⟨2, by go_num, ⟨rfl, by omega⟩, ⟨HL8.out⟩, ⟨HB8.out⟩⟩
        · go_wp2_with (first
            | (go_at_call 3; (with_reducible refine (runs_later w _ he ?_).mono ?_); (focus exact HBR.out); rintro e w9 ⟨rfl, hc9⟩))
          go_ret
          exact ⟨rfl, hc9⟩
end Go.Proofs.YtgdfgahpjebcaaaDoor
