/-
  emendlaw1.TextQuotes, walked. PRINTED by gen_quw.py.
-/
import Derived.Test.YtgdfgahpjebcaaaGreatDoorQrf
set_option linter.unusedSimpArgs false
set_option linter.unusedVariables false
namespace Go.Proofs.YtgdfgahpjebcaaaGreatDoor
open Go.RowKit Go.Proofs.YtgdfgahpjebcaaaGreatDoorW.PrintWords Go.Proofs.YtgdfgahpjebcaaaGreatDoor.PT

theorem qrun_range (s : ByteArray) : ∀ (k i : Nat) (b : List Int), i ≤ s.size → (0 ≤ (qrun s k i b).2.1 ∧ (qrun s k i b).2.1 ≤ s.size) ∧ (0 ≤ (qrun s k i b).2.2.1 ∧ (qrun s k i b).2.2.1 ≤ s.size) ∧ (0 ≤ (qrun s k i b).2.2.2 ∧ (qrun s k i b).2.2.2 < 100) := by
  intro k
  induction k with
  | zero => intro i b hi; unfold qrun; simp
  | succ k ih =>
    intro i b hi
    unfold qrun
    have he := escI_range (s.extract (i + 1) s.size)
    have hz : (s.extract (i + 1) s.size).size = s.size - (i + 1) := by simp
    split
    · split
      · simp; omega
      · split
        · simp; omega
        · split
          · split
            · simp; omega
            · rename_i hn
              rcases he with he | he
              · exact absurd he hn
              · exact ih _ _ (by omega)
          · exact ih _ _ (by omega)
    · simp
/-- What text.Unquote and the reference's answer, alike. -/
def UnqBoth (s x : ByteArray) (a y : Int) : Prop :=
  (∀ w : World, Calls Tryz.prog 8 #[.string s] w fun e w' => ∃ v, e = .returned (.tuple #[.string x, v]) ∧ ErrAt w' v a y ∧ Below w.heap.size w w') ∧
  (∀ w : World, Calls Tryz.prog 9 #[.string s] w fun e w' => e = .returned (.tuple #[.string x, .agg #[.int .i64 a, .int .i64 y]]) ∧ Below w.heap.size w w') ∧
  (-9223372036854775808 ≤ a ∧ a ≤ 9223372036854775807) ∧ (0 ≤ y ∧ y < 100)
theorem unq_both (s : ByteArray) (hs : s.size ≤ 1000000) : ∃ x a y, UnqBoth s x a y := by
  obtain ⟨l, er, h⟩ := scan_exists s _ 0 (Nat.zero_le _) rfl
  have hp : ∀ w : World, Calls Tryz.prog 8 #[.string s] w (SPost (unqI s er) w) := by
    cases er with
    | some a => exact fun w => unquote_bad s l a w (by omega) h
    | none => exact fun w => unquote_ok s l w (by omega) h
  have hrg : (-9223372036854775808 ≤ (unqI s er).2.1 ∧ (unqI s er).2.1 ≤ 9223372036854775807) ∧ (0 ≤ (unqI s er).2.2 ∧ (unqI s er).2.2 < 100) := by
    cases er with
    | some a =>
      have ha := (h.says.2.2 a rfl).2.1
      show (-9223372036854775808 ≤ (a : Int) ∧ (a : Int) ≤ 9223372036854775807) ∧ (0 ≤ (10 : Int) ∧ (10 : Int) < 100)
      omega
    | none =>
      unfold unqI
      by_cases h0 : s.size = 0
      · simp [h0]
      · have hq := qrun_range s s.size 1 [] (by omega)
        simp only [h0, if_false]
        split
        · simp
        · split
          · simp only; omega
          · split
            · simp only; omega
            · simp
  refine ⟨(uout (unqI s er)).1, (unqI s er).2.1, (unqI s er).2.2, fun w => ?_, fun w => emendref1_Unquote.calls (s.size + 20) s _ _ _ w (unquoteR_f s l er hs h), hrg⟩
  refine (hp w).mono fun e w' hp => ?_
  rcases hp with ⟨h0, he, hb⟩ | ⟨h0, g, he, hr, _, hb⟩
  · exact ⟨_, by unfold uout; simp only; rw [if_pos h0]; exact he, .inl ⟨h0, rfl⟩, hb⟩
  · exact ⟨_, by unfold uout; simp only; rw [if_neg h0]; exact he, .inr ⟨h0, g, rfl, hr⟩, hb⟩
/-- A text's beginning. -/
def fewI (s : ByteArray) (n : Nat) : ByteArray := if s.size > n then s.extract 0 n else s
theorem few_f (s : ByteArray) (n : Nat) : emendlaw1_few.f s n = some (fewI s n) := by
  unfold emendlaw1_few.f fewI
  by_cases h : s.size > n
  · rw [if_pos (by omega), if_pos (by omega), if_pos (by omega), if_pos h, Int.toNat_natCast]
  · rw [if_neg (by omega), if_neg h]
theorem few_size (s : ByteArray) (n : Nat) : (fewI s n).size ≤ n := by
  unfold fewI
  split
  · simp; omega
  · omega
theorem fewq (s : ByteArray) (w : World) : Calls Tryz.prog 4 #[.string s, .int .i64 2000] w fun e w' => e = .returned (.string (fewI s 2000)) ∧ Drawn0 w w' := emendlaw1_few.calls s 2000 _ w (few_f s 2000)
theorem runs_lat (w w1 : World) (he : Env w) (hb : Below w.heap.size w w1) : Calls Tryz.prog 11 #[] w1 fun e w' => e = .returned (.bool true) ∧ Below w.heap.size w w' :=
  (runs_true w1 (he.below hb he.size)).mono fun e w' h => ⟨h.1, bl_trans hb h.2⟩
theorem valq (s : ByteArray) (l : List Int) (er : Option Nat) (w : World) (hs : s.size ≤ 1000000) (h : Scan s 0 l er) : Calls Tryz.prog 6 #[.string s] w fun e w' => e = .returned (.bool er.isNone) ∧ Below w.heap.size w w' :=
  emendref1_Valid.calls (s.size + 10) s _ w (by unfold emendref1_Valid.f; rw [runes_f (by omega) h, Option.bind_some]; cases er <;> rfl)

set_option maxHeartbeats 16000000 in
set_option maxRecDepth 100000 in
theorem quotes_true (s0 q0 : ByteArray) (w : World) (he : Env w) :
    Calls Tryz.prog 3 #[.string s0, .string q0] w fun e w' => e = .returned (.bool true) ∧ Below w.heap.size w w' := by
  have hsz := few_size s0 2000
  have hqz := few_size q0 2000
  obtain ⟨s, hs⟩ : ∃ s, fewI s0 2000 = s := ⟨_, rfl⟩
  obtain ⟨q, hq⟩ : ∃ s, fewI q0 2000 = s := ⟨_, rfl⟩
  rw [hs] at hsz
  rw [hq] at hqz
  have HS := Aside0.mk hs
  have HQ := Aside0.mk hq
  obtain ⟨t3, ht3⟩ : ∃ t : ByteArray, (⟨#[34]⟩ : ByteArray) ++ q = t := ⟨_, rfl⟩
  obtain ⟨t2, ht2⟩ : ∃ t : ByteArray, t3 ++ (⟨#[34]⟩ : ByteArray) = t := ⟨_, rfl⟩
  have hz3 : t3.size ≤ 2001 := by rw [← ht3]; simp only [ByteArray.size_append]; show 1 + q.size ≤ 2001; omega
  have hz2 : t2.size ≤ 2002 := by rw [← ht2]; simp only [ByteArray.size_append]; show t3.size + 1 ≤ 2002; omega
  obtain ⟨u0, a0, y0, hu0⟩ := unq_both s (by omega)
  have HU0 := Aside0.mk hu0.1
  have HV0 := Aside0.mk hu0.2.1
  have HW0 := Aside0.mk hu0.2.2
  have e0 : (u0.toList != u0.toList) = false := by simp
  obtain ⟨u1, a1, y1, hu1⟩ := unq_both q (by omega)
  have HU1 := Aside0.mk hu1.1
  have HV1 := Aside0.mk hu1.2.1
  have HW1 := Aside0.mk hu1.2.2
  have e1 : (u1.toList != u1.toList) = false := by simp
  obtain ⟨u2, a2, y2, hu2⟩ := unq_both t2 (by omega)
  have HU2 := Aside0.mk hu2.1
  have HV2 := Aside0.mk hu2.2.1
  have HW2 := Aside0.mk hu2.2.2
  have e2 : (u2.toList != u2.toList) = false := by simp
  obtain ⟨u3, a3, y3, hu3⟩ := unq_both t3 (by omega)
  have HU3 := Aside0.mk hu3.1
  have HV3 := Aside0.mk hu3.2.1
  have HW3 := Aside0.mk hu3.2.2
  have e3 : (u3.toList != u3.toList) = false := by simp
  clear hs hq hu0 hu1 hu2 hu3 hz2
  have z1 : (1 + q.size ≤ 9223372036854775807) = True := eq_true (by omega)
  have z2 : decide (1 + q.size ≤ 9223372036854775807) = true := decide_eq_true (by omega)
  have z3 : (9223372036854775807 < 1 + q.size) = False := eq_false (by omega)
  have z4 : (t3.size + 1 ≤ 9223372036854775807) = True := eq_true (by omega)
  have z5 : decide (t3.size + 1 ≤ 9223372036854775807) = true := decide_eq_true (by omega)
  have z6 : (9223372036854775807 < t3.size + 1) = False := eq_false (by omega)
  obtain ⟨l, er, hsc⟩ := scan_exists s _ 0 (Nat.zero_le _) rfl
  cases er with
  | none =>
    have HV := Aside0.mk (fun w => valq s l none w (by omega) hsc)
    have HP := Aside0.mk (fun w => quote_ok s l w (by omega) hsc)
    have HR := Aside0.mk (fun w => emendref1_Quote.calls (3 * s.size + 1) s _ w (quoteR_f s (by omega)))
    generalize strOfNums (quoteI (bytesOf s)) = x at HP HR
    have ex : (x.toList != x.toList) = false := by simp
    clear hsc
    go_enter Tryz.func3, Tryz.ntmps3
    go_wp2_with (first
      | (go_at_call 4; (with_reducible refine (fewq s0 _).mono ?_); rintro e w1 ⟨rfl, ⟨nd, rfl⟩⟩; rw [HS.out])
      | (go_at_call 4; (with_reducible refine (fewq q0 _).mono ?_); rintro e w1 ⟨rfl, ⟨nd2, rfl⟩⟩; rw [HQ.out])
      | (go_at_call 5; (with_reducible refine (HP.out _).mono ?_); rintro e w3 ⟨rfl, hb3⟩; have HB3 : Aside0 (Below w.heap.size w w3) := ⟨bl_trans (bl_drewN (Below.refl _ _) _) hb3⟩; clear hb3)
      | (go_at_call 6; (with_reducible refine (HV.out _).mono ?_); rintro e w4 ⟨rfl, hb4⟩; have HB4 : Aside0 (Below w.heap.size w w4) := ⟨bl_trans HB3.out hb4⟩; clear hb4)
      | (go_at_call 7; (with_reducible refine (HR.out _).mono ?_); rintro e w5 ⟨rfl, hb5⟩; have HB5 : Aside0 (Below w.heap.size w w5) := ⟨bl_trans HB4.out hb5⟩; clear hb5))
    obtain ⟨wo, hwo⟩ : ∃ wo : World, wo = w5 := ⟨_, rfl⟩
    rw [← hwo]
    have HB : Aside0 (Below w.heap.size w wo) := ⟨by rw [hwo]; exact HB5.out⟩
    clear hwo HB5 HB3 HV HP
    go_loopg [8] 4 (fun kq v8 w' => ∃ i : Nat, v8 = .int .i64 i ∧ Aside0 (kq = 4 - i ∧ i ≤ 4) ∧ Aside0 (w'.heap[wo.heap.size]? = some (.cells #[.string s, .string q, .string t2, .string t3] 9 (0, 0))) ∧ Aside0 (Below w.heap.size w w'))
    case atStart => exact ⟨0, rfl, ⟨rfl, by omega⟩, ⟨heap_alloc_new wo _⟩, ⟨bl_alloc HB.out _⟩⟩
    case round =>
      obtain ⟨i, rfl, HI, HL, HBR⟩ := hrel
      obtain ⟨hk, hi2⟩ := HI.out
      have hi : i = 0 ∨ i = 1 ∨ i = 2 ∨ i = 3 ∨ i = 4 := by omega
      have HK := Aside0.mk hk
      clear hk HI
      rcases hi with rfl | rfl | rfl | rfl | rfl
      · have m0 := cellB HL.out 0 (.string s) rfl
        go_wp2_with (first
          | (go_at_call 8; (with_reducible refine (HU0.out _).mono ?_); rintro e w6 ⟨v6, rfl, hv6, hb6⟩; have HE6 := Aside0.mk hv6; have hl6 := keepB (B := 0) HL.out hb6; have m1 := cellB hl6 0 (.string s) rfl; have HL6 := Aside0.mk hl6; have HB6 : Aside0 (Below w.heap.size w w6) := ⟨bl_trans HBR.out hb6⟩; clear hb6 hv6 hl6)
          | (go_at_call 9; (with_reducible refine (HV0.out _).mono ?_); rintro e w7 ⟨rfl, hb7⟩; have HE7 := Aside0.mk ((HE6.out.below hb7).below (bl_alloc (Below.refl w7.heap.size w7) (.cells #[.int .i64 a0, .int .i64 y0] 34))); have HL7 := Aside0.mk (keepB (B := 0) (keepB (B := 0) HL6.out hb7) (bl_alloc (Below.refl w7.heap.size w7) (.cells #[.int .i64 a0, .int .i64 y0] 34))); have HB7 : Aside0 (Below w.heap.size w (w7.alloc (.cells #[.int .i64 a0, .int .i64 y0] 34))) := ⟨bl_alloc (bl_trans HB6.out hb7) _⟩; clear hb7)
          | (go_at_call 10; (with_reducible refine (sm_any v6 a0 y0 _ HE7.out (he.below HB7.out he.size) HW0.out.1 HW0.out.2).mono ?_); rintro e w8 ⟨rfl, hb8⟩; have HB8 : Aside0 (Below w.heap.size w w8) := ⟨bl_trans HB7.out hb8⟩; have HL8 := Aside0.mk (keepB (B := 0) HL7.out hb8); clear hb8))
        go_roundg 3
        case measure => have := HK.out; omega
        case rel => exact ⟨1, by go_num, ⟨rfl, by omega⟩, ⟨HL8.out⟩, ⟨HB8.out⟩⟩
      · have m0 := cellB HL.out 1 (.string q) rfl
        go_wp2_with (first
          | (go_at_call 8; (with_reducible refine (HU1.out _).mono ?_); rintro e w6 ⟨v6, rfl, hv6, hb6⟩; have HE6 := Aside0.mk hv6; have hl6 := keepB (B := 0) HL.out hb6; have m1 := cellB hl6 1 (.string q) rfl; have HL6 := Aside0.mk hl6; have HB6 : Aside0 (Below w.heap.size w w6) := ⟨bl_trans HBR.out hb6⟩; clear hb6 hv6 hl6)
          | (go_at_call 9; (with_reducible refine (HV1.out _).mono ?_); rintro e w7 ⟨rfl, hb7⟩; have HE7 := Aside0.mk ((HE6.out.below hb7).below (bl_alloc (Below.refl w7.heap.size w7) (.cells #[.int .i64 a1, .int .i64 y1] 34))); have HL7 := Aside0.mk (keepB (B := 0) (keepB (B := 0) HL6.out hb7) (bl_alloc (Below.refl w7.heap.size w7) (.cells #[.int .i64 a1, .int .i64 y1] 34))); have HB7 : Aside0 (Below w.heap.size w (w7.alloc (.cells #[.int .i64 a1, .int .i64 y1] 34))) := ⟨bl_alloc (bl_trans HB6.out hb7) _⟩; clear hb7)
          | (go_at_call 10; (with_reducible refine (sm_any v6 a1 y1 _ HE7.out (he.below HB7.out he.size) HW1.out.1 HW1.out.2).mono ?_); rintro e w8 ⟨rfl, hb8⟩; have HB8 : Aside0 (Below w.heap.size w w8) := ⟨bl_trans HB7.out hb8⟩; have HL8 := Aside0.mk (keepB (B := 0) HL7.out hb8); clear hb8))
        go_roundg 2
        case measure => have := HK.out; omega
        case rel => exact ⟨2, by go_num, ⟨rfl, by omega⟩, ⟨HL8.out⟩, ⟨HB8.out⟩⟩
      · have m0 := cellB HL.out 2 (.string t2) rfl
        go_wp2_with (first
          | (go_at_call 8; (with_reducible refine (HU2.out _).mono ?_); rintro e w6 ⟨v6, rfl, hv6, hb6⟩; have HE6 := Aside0.mk hv6; have hl6 := keepB (B := 0) HL.out hb6; have m1 := cellB hl6 2 (.string t2) rfl; have HL6 := Aside0.mk hl6; have HB6 : Aside0 (Below w.heap.size w w6) := ⟨bl_trans HBR.out hb6⟩; clear hb6 hv6 hl6)
          | (go_at_call 9; (with_reducible refine (HV2.out _).mono ?_); rintro e w7 ⟨rfl, hb7⟩; have HE7 := Aside0.mk ((HE6.out.below hb7).below (bl_alloc (Below.refl w7.heap.size w7) (.cells #[.int .i64 a2, .int .i64 y2] 34))); have HL7 := Aside0.mk (keepB (B := 0) (keepB (B := 0) HL6.out hb7) (bl_alloc (Below.refl w7.heap.size w7) (.cells #[.int .i64 a2, .int .i64 y2] 34))); have HB7 : Aside0 (Below w.heap.size w (w7.alloc (.cells #[.int .i64 a2, .int .i64 y2] 34))) := ⟨bl_alloc (bl_trans HB6.out hb7) _⟩; clear hb7)
          | (go_at_call 10; (with_reducible refine (sm_any v6 a2 y2 _ HE7.out (he.below HB7.out he.size) HW2.out.1 HW2.out.2).mono ?_); rintro e w8 ⟨rfl, hb8⟩; have HB8 : Aside0 (Below w.heap.size w w8) := ⟨bl_trans HB7.out hb8⟩; have HL8 := Aside0.mk (keepB (B := 0) HL7.out hb8); clear hb8))
        go_roundg 1
        case measure => have := HK.out; omega
        case rel => exact ⟨3, by go_num, ⟨rfl, by omega⟩, ⟨HL8.out⟩, ⟨HB8.out⟩⟩
      · have m0 := cellB HL.out 3 (.string t3) rfl
        go_wp2_with (first
          | (go_at_call 8; (with_reducible refine (HU3.out _).mono ?_); rintro e w6 ⟨v6, rfl, hv6, hb6⟩; have HE6 := Aside0.mk hv6; have hl6 := keepB (B := 0) HL.out hb6; have m1 := cellB hl6 3 (.string t3) rfl; have HL6 := Aside0.mk hl6; have HB6 : Aside0 (Below w.heap.size w w6) := ⟨bl_trans HBR.out hb6⟩; clear hb6 hv6 hl6)
          | (go_at_call 9; (with_reducible refine (HV3.out _).mono ?_); rintro e w7 ⟨rfl, hb7⟩; have HE7 := Aside0.mk ((HE6.out.below hb7).below (bl_alloc (Below.refl w7.heap.size w7) (.cells #[.int .i64 a3, .int .i64 y3] 34))); have HL7 := Aside0.mk (keepB (B := 0) (keepB (B := 0) HL6.out hb7) (bl_alloc (Below.refl w7.heap.size w7) (.cells #[.int .i64 a3, .int .i64 y3] 34))); have HB7 : Aside0 (Below w.heap.size w (w7.alloc (.cells #[.int .i64 a3, .int .i64 y3] 34))) := ⟨bl_alloc (bl_trans HB6.out hb7) _⟩; clear hb7)
          | (go_at_call 10; (with_reducible refine (sm_any v6 a3 y3 _ HE7.out (he.below HB7.out he.size) HW3.out.1 HW3.out.2).mono ?_); rintro e w8 ⟨rfl, hb8⟩; have HB8 : Aside0 (Below w.heap.size w w8) := ⟨bl_trans HB7.out hb8⟩; have HL8 := Aside0.mk (keepB (B := 0) HL7.out hb8); clear hb8))
        go_roundg 0
        case measure => have := HK.out; omega
        case rel => exact ⟨4, by go_num, ⟨rfl, by omega⟩, ⟨HL8.out⟩, ⟨HB8.out⟩⟩
      · go_wp2_with (first
          | (go_at_call 11; (with_reducible refine (runs_lat w _ he ?_).mono ?_); (focus exact HBR.out); rintro e w9 ⟨rfl, hc9⟩))
        go_ret
        exact ⟨rfl, hc9⟩
  | some ab =>
    have HV := Aside0.mk (fun w => valq s l (some ab) w (by omega) hsc)
    have HP := Aside0.mk (fun w => quote_bad s l ab w (by omega) hsc)
    clear hsc
    go_enter Tryz.func3, Tryz.ntmps3
    go_wp2_with (first
      | (go_at_call 4; (with_reducible refine (fewq s0 _).mono ?_); rintro e w1 ⟨rfl, ⟨nd, rfl⟩⟩; rw [HS.out])
      | (go_at_call 4; (with_reducible refine (fewq q0 _).mono ?_); rintro e w1 ⟨rfl, ⟨nd2, rfl⟩⟩; rw [HQ.out])
      | (go_at_call 5; (with_reducible refine (HP.out _).mono ?_); rintro e w3 ⟨rfl, hb3⟩; have HB3 : Aside0 (Below w.heap.size w w3) := ⟨bl_trans (bl_drewN (Below.refl _ _) _) hb3⟩; clear hb3)
      | (go_at_call 6; (with_reducible refine (HV.out _).mono ?_); rintro e w4 ⟨rfl, hb4⟩; have HB4 : Aside0 (Below w.heap.size w w4) := ⟨bl_trans HB3.out hb4⟩; clear hb4))
    obtain ⟨wo, hwo⟩ : ∃ wo : World, wo = w4 := ⟨_, rfl⟩
    rw [← hwo]
    have HB : Aside0 (Below w.heap.size w wo) := ⟨by rw [hwo]; exact HB4.out⟩
    clear hwo HB4 HB3 HV HP
    go_loopg [8] 4 (fun kq v8 w' => ∃ i : Nat, v8 = .int .i64 i ∧ Aside0 (kq = 4 - i ∧ i ≤ 4) ∧ Aside0 (w'.heap[wo.heap.size]? = some (.cells #[.string s, .string q, .string t2, .string t3] 9 (0, 0))) ∧ Aside0 (Below w.heap.size w w'))
    case atStart => exact ⟨0, rfl, ⟨rfl, by omega⟩, ⟨heap_alloc_new wo _⟩, ⟨bl_alloc HB.out _⟩⟩
    case round =>
      obtain ⟨i, rfl, HI, HL, HBR⟩ := hrel
      obtain ⟨hk, hi2⟩ := HI.out
      have hi : i = 0 ∨ i = 1 ∨ i = 2 ∨ i = 3 ∨ i = 4 := by omega
      have HK := Aside0.mk hk
      clear hk HI
      rcases hi with rfl | rfl | rfl | rfl | rfl
      · have m0 := cellB HL.out 0 (.string s) rfl
        go_wp2_with (first
          | (go_at_call 8; (with_reducible refine (HU0.out _).mono ?_); rintro e w6 ⟨v6, rfl, hv6, hb6⟩; have HE6 := Aside0.mk hv6; have hl6 := keepB (B := 0) HL.out hb6; have m1 := cellB hl6 0 (.string s) rfl; have HL6 := Aside0.mk hl6; have HB6 : Aside0 (Below w.heap.size w w6) := ⟨bl_trans HBR.out hb6⟩; clear hb6 hv6 hl6)
          | (go_at_call 9; (with_reducible refine (HV0.out _).mono ?_); rintro e w7 ⟨rfl, hb7⟩; have HE7 := Aside0.mk ((HE6.out.below hb7).below (bl_alloc (Below.refl w7.heap.size w7) (.cells #[.int .i64 a0, .int .i64 y0] 34))); have HL7 := Aside0.mk (keepB (B := 0) (keepB (B := 0) HL6.out hb7) (bl_alloc (Below.refl w7.heap.size w7) (.cells #[.int .i64 a0, .int .i64 y0] 34))); have HB7 : Aside0 (Below w.heap.size w (w7.alloc (.cells #[.int .i64 a0, .int .i64 y0] 34))) := ⟨bl_alloc (bl_trans HB6.out hb7) _⟩; clear hb7)
          | (go_at_call 10; (with_reducible refine (sm_any v6 a0 y0 _ HE7.out (he.below HB7.out he.size) HW0.out.1 HW0.out.2).mono ?_); rintro e w8 ⟨rfl, hb8⟩; have HB8 : Aside0 (Below w.heap.size w w8) := ⟨bl_trans HB7.out hb8⟩; have HL8 := Aside0.mk (keepB (B := 0) HL7.out hb8); clear hb8))
        go_roundg 3
        case measure => have := HK.out; omega
        case rel => exact ⟨1, by go_num, ⟨rfl, by omega⟩, ⟨HL8.out⟩, ⟨HB8.out⟩⟩
      · have m0 := cellB HL.out 1 (.string q) rfl
        go_wp2_with (first
          | (go_at_call 8; (with_reducible refine (HU1.out _).mono ?_); rintro e w6 ⟨v6, rfl, hv6, hb6⟩; have HE6 := Aside0.mk hv6; have hl6 := keepB (B := 0) HL.out hb6; have m1 := cellB hl6 1 (.string q) rfl; have HL6 := Aside0.mk hl6; have HB6 : Aside0 (Below w.heap.size w w6) := ⟨bl_trans HBR.out hb6⟩; clear hb6 hv6 hl6)
          | (go_at_call 9; (with_reducible refine (HV1.out _).mono ?_); rintro e w7 ⟨rfl, hb7⟩; have HE7 := Aside0.mk ((HE6.out.below hb7).below (bl_alloc (Below.refl w7.heap.size w7) (.cells #[.int .i64 a1, .int .i64 y1] 34))); have HL7 := Aside0.mk (keepB (B := 0) (keepB (B := 0) HL6.out hb7) (bl_alloc (Below.refl w7.heap.size w7) (.cells #[.int .i64 a1, .int .i64 y1] 34))); have HB7 : Aside0 (Below w.heap.size w (w7.alloc (.cells #[.int .i64 a1, .int .i64 y1] 34))) := ⟨bl_alloc (bl_trans HB6.out hb7) _⟩; clear hb7)
          | (go_at_call 10; (with_reducible refine (sm_any v6 a1 y1 _ HE7.out (he.below HB7.out he.size) HW1.out.1 HW1.out.2).mono ?_); rintro e w8 ⟨rfl, hb8⟩; have HB8 : Aside0 (Below w.heap.size w w8) := ⟨bl_trans HB7.out hb8⟩; have HL8 := Aside0.mk (keepB (B := 0) HL7.out hb8); clear hb8))
        go_roundg 2
        case measure => have := HK.out; omega
        case rel => exact ⟨2, by go_num, ⟨rfl, by omega⟩, ⟨HL8.out⟩, ⟨HB8.out⟩⟩
      · have m0 := cellB HL.out 2 (.string t2) rfl
        go_wp2_with (first
          | (go_at_call 8; (with_reducible refine (HU2.out _).mono ?_); rintro e w6 ⟨v6, rfl, hv6, hb6⟩; have HE6 := Aside0.mk hv6; have hl6 := keepB (B := 0) HL.out hb6; have m1 := cellB hl6 2 (.string t2) rfl; have HL6 := Aside0.mk hl6; have HB6 : Aside0 (Below w.heap.size w w6) := ⟨bl_trans HBR.out hb6⟩; clear hb6 hv6 hl6)
          | (go_at_call 9; (with_reducible refine (HV2.out _).mono ?_); rintro e w7 ⟨rfl, hb7⟩; have HE7 := Aside0.mk ((HE6.out.below hb7).below (bl_alloc (Below.refl w7.heap.size w7) (.cells #[.int .i64 a2, .int .i64 y2] 34))); have HL7 := Aside0.mk (keepB (B := 0) (keepB (B := 0) HL6.out hb7) (bl_alloc (Below.refl w7.heap.size w7) (.cells #[.int .i64 a2, .int .i64 y2] 34))); have HB7 : Aside0 (Below w.heap.size w (w7.alloc (.cells #[.int .i64 a2, .int .i64 y2] 34))) := ⟨bl_alloc (bl_trans HB6.out hb7) _⟩; clear hb7)
          | (go_at_call 10; (with_reducible refine (sm_any v6 a2 y2 _ HE7.out (he.below HB7.out he.size) HW2.out.1 HW2.out.2).mono ?_); rintro e w8 ⟨rfl, hb8⟩; have HB8 : Aside0 (Below w.heap.size w w8) := ⟨bl_trans HB7.out hb8⟩; have HL8 := Aside0.mk (keepB (B := 0) HL7.out hb8); clear hb8))
        go_roundg 1
        case measure => have := HK.out; omega
        case rel => exact ⟨3, by go_num, ⟨rfl, by omega⟩, ⟨HL8.out⟩, ⟨HB8.out⟩⟩
      · have m0 := cellB HL.out 3 (.string t3) rfl
        go_wp2_with (first
          | (go_at_call 8; (with_reducible refine (HU3.out _).mono ?_); rintro e w6 ⟨v6, rfl, hv6, hb6⟩; have HE6 := Aside0.mk hv6; have hl6 := keepB (B := 0) HL.out hb6; have m1 := cellB hl6 3 (.string t3) rfl; have HL6 := Aside0.mk hl6; have HB6 : Aside0 (Below w.heap.size w w6) := ⟨bl_trans HBR.out hb6⟩; clear hb6 hv6 hl6)
          | (go_at_call 9; (with_reducible refine (HV3.out _).mono ?_); rintro e w7 ⟨rfl, hb7⟩; have HE7 := Aside0.mk ((HE6.out.below hb7).below (bl_alloc (Below.refl w7.heap.size w7) (.cells #[.int .i64 a3, .int .i64 y3] 34))); have HL7 := Aside0.mk (keepB (B := 0) (keepB (B := 0) HL6.out hb7) (bl_alloc (Below.refl w7.heap.size w7) (.cells #[.int .i64 a3, .int .i64 y3] 34))); have HB7 : Aside0 (Below w.heap.size w (w7.alloc (.cells #[.int .i64 a3, .int .i64 y3] 34))) := ⟨bl_alloc (bl_trans HB6.out hb7) _⟩; clear hb7)
          | (go_at_call 10; (with_reducible refine (sm_any v6 a3 y3 _ HE7.out (he.below HB7.out he.size) HW3.out.1 HW3.out.2).mono ?_); rintro e w8 ⟨rfl, hb8⟩; have HB8 : Aside0 (Below w.heap.size w w8) := ⟨bl_trans HB7.out hb8⟩; have HL8 := Aside0.mk (keepB (B := 0) HL7.out hb8); clear hb8))
        go_roundg 0
        case measure => have := HK.out; omega
        case rel => exact ⟨4, by go_num, ⟨rfl, by omega⟩, ⟨HL8.out⟩, ⟨HB8.out⟩⟩
      · go_wp2_with (first
          | (go_at_call 11; (with_reducible refine (runs_lat w _ he ?_).mono ?_); (focus exact HBR.out); rintro e w9 ⟨rfl, hc9⟩))
        go_ret
        exact ⟨rfl, hc9⟩
end Go.Proofs.YtgdfgahpjebcaaaGreatDoor
