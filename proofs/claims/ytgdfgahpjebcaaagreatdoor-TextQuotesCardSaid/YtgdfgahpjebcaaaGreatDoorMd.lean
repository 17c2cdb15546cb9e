import Derived.Test.YtgdfgahpjebcaaaGreatDoorMc
import Derived.BigQuiet
import Derived.Deep.WholeRow
import Derived.Test.YtgdfgahpjebcaaaGreatDoorMa
import Derived.Test.YtgdfgahpjebcaaaGreatDoorRows
import Derived.Lib.LaidTab
import Derived.ProofKit
import Derived.LaidMore
import Derived.OpenShut
import Derived.LaidLaws
import Derived.LaidHandle
import Derived.Stop.Joined
import Derived.ChangeSame
import Derived.ChangeVars
import Derived.JoinedOf
import Derived.RowKitTokens
set_option linter.unusedSimpArgs false
set_option linter.unusedVariables false
/-
  text.numbered, walked. PRINTED by gen_num.py.
-/
namespace Go.Proofs.YtgdfgahpjebcaaaGreatDoor
open Go.RowKit Go.Proofs.YtgdfgahpjebcaaaGreatDoorW.PrintWords Go.Proofs.YtgdfgahpjebcaaaGreatDoor.PT

theorem pfx_one (t : ByteArray) (a : UInt8) (h : 1 ≤ t.size) : ((t.extract 0 1).toList == (⟨#[a]⟩ : ByteArray).toList) = decide (bt t 0 = a.toNat) := by
  obtain ⟨x, tl, htl⟩ : ∃ x tl, t.data.toList = x :: tl := by
    have := data_length t
    cases hd : t.data.toList with
    | nil => rw [hd] at this; simp at this; omega
    | cons a l => exact ⟨a, l, rfl⟩
  have e1 : (t.extract 0 1).toList = [x] := by
    rw [Lib.toList_data, ByteArray.data_extract, Array.toList_extract]
    simp [htl]
  have e2 : (⟨#[a]⟩ : ByteArray).toList = [a] := by rw [Lib.toList_data]
  have b0 : bt t 0 = (x.toNat : Int) := by
    rw [show (0 : Int) = ((0 : Nat) : Int) + ((0 : Nat) : Int) from rfl, bt_drop t 0 0]
    simp [bytesOf, htl]
  rw [e1, e2, b0]
  by_cases h0 : x = a
  · simp [h0]
  · have : ¬ ((x.toNat : Int) = a.toNat) := fun h => h0 (UInt8.toNat_inj.1 (by omega))
    simp [h0, this]
theorem pfx1_f (t : ByteArray) : strings_HasPrefix.f t (⟨#[120]⟩ : ByteArray) = some (decide (1 ≤ t.size ∧ bt t 0 = 120)) := by
  unfold strings_HasPrefix.f stringslite_HasPrefix.f
  have hz : (((⟨#[120]⟩ : ByteArray).size : Nat) : Int) = 1 := rfl
  rw [hz]
  by_cases h : 1 ≤ t.size
  · rw [if_pos (by omega), if_pos (by omega), if_pos (by omega), Option.bind_some]
    have := pfx_one t 120 h
    have e : ((1 : Int) : Int).toNat = 1 := rfl
    rw [e, this]
    simp [h]
  · rw [if_neg (by omega), Option.bind_some]; simp [h]

/-- Reading a number's digits. -/
def nrun (s : ByteArray) (base : Int) (f : Nat) : Nat → Nat → Int → Int × Int
  | 0, _, _ => (0, 0)
  | k + 1, i, r =>
    if i < s.size ∧ 0 ≤ valI (bt s i) ∧ valI (bt s i) < base then (if i = f + 7 then (0, 0) else nrun s base f k (i + 1) (r * base + valI (bt s i)))
    else if i = f ∨ i = s.size ∨ bt s i ≠ 59 ∨ xmlB r = false then (0, 0) else (r, i + 1)
/-- What text.numbered answers. -/
def numI (s : ByteArray) : Int × Int := if 1 ≤ s.size ∧ bt s 0 = 120 then nrun s 16 1 9 1 0 else nrun s 10 0 9 0 0
theorem pow_le6 (j : Nat) (h : j ≤ 6) : (16 : Nat) ^ j ≤ 16777216 := Nat.le_trans (Nat.pow_le_pow_right (by decide) h) (by decide)

set_option maxHeartbeats 4000000 in
set_option maxRecDepth 100000 in
theorem numbered_x (s : ByteArray) (w : World) (hs : s.size ≤ 140737488355328) (hp : 1 ≤ s.size ∧ bt s 0 = 120) :
    Calls Tryz.prog 67 #[.string s] w fun e w' => e = .returned (.tuple #[.int .i64 (nrun s 16 1 9 1 0).1, .int .i64 (nrun s 16 1 9 1 0).2]) ∧ Drawn0 w w' := by
  have hpf := pfx1_f s
  rw [decide_eq_true hp] at hpf
  have HPF := Aside0.mk hpf
  obtain ⟨R, hR⟩ : ∃ R, nrun s 16 1 9 1 0 = R := ⟨_, rfl⟩
  rw [hR]
  have HR := Aside0.mk hR
  have hf : 1 ≤ s.size := by omega
  clear hpf hR
  go_enter Tryz.func67, Tryz.ntmps67
  go_wp2_with (first
    | (go_at_call 66; (with_reducible refine (strings_HasPrefix.calls s ⟨#[120]⟩ true _ HPF.out).mono ?_); rintro e w1 ⟨rfl, ⟨nd, rfl⟩⟩))
  go_loopg [2, 6] 7 (fun kq v2 v6 w' => ∃ (i : Nat) (r : Int) (nn : Nat), v2 = .int .i64 r ∧ v6 = .int .i64 i ∧ Aside0 (kq = 1 + 7 - i ∧ i ≤ 1 + 7 ∧ 1 ≤ i ∧ i ≤ s.size ∧ 0 ≤ r ∧ r < ((16 ^ (i - 1) : Nat) : Int) ∧ nrun s 16 1 (1 + 9 - i) i r = R) ∧ Aside0 (w' = w.drewN nn))
  case atStart => exact ⟨1, 0, _, rfl, rfl, ⟨rfl, by omega, by omega, hf, by omega, by decide, HR.out⟩, ⟨rfl⟩⟩
  case round =>
    obtain ⟨i, r, nn, rfl, rfl, HI, HW⟩ := hrel
    obtain ⟨hk, hi7, hfi, hile, hr0, hrp, hrun⟩ := HI.out
    have hww := HW.out
    subst hww
    have hgo : ∃ kk, 1 + 9 - i = kk + 1 ∧ kk = 1 + 9 - (i + 1) := ⟨_, by omega, rfl⟩
    obtain ⟨kk, hkk, hkk2⟩ := hgo
    rw [hkk, nrun] at hrun
    by_cases hlt : i < s.size
    · have hi : i < s.size := hlt
      have q5 : ((s[i]'hi).toNat : Int) = bt s (i : Int) := by have := bt_at s (i : Int) (by simpa using hi); simpa using this
      have q1 : ((i : Int) < (s.size : Int)) = True := eq_true (by omega)
      obtain ⟨c, hc⟩ : ∃ c, bt s (i : Int) = c := ⟨_, rfl⟩
      rw [hc] at q5 hrun
      have hvf := value_f 0 c
      have hvr := valI_range c
      obtain ⟨v, hv⟩ : ∃ v, valI c = v := ⟨_, rfl⟩
      rw [hv] at hvf hvr hrun
      have HVF := Aside0.mk hvf
      have HK := Aside0.mk hk
      by_cases k1 : 0 ≤ v ∧ v < 16
      · rw [if_pos ⟨hi, k1⟩] at hrun
        have c1 : (v ≥ 0) = True := eq_true k1.1
        have c2 : (v < 16) = True := eq_true k1.2
        by_cases k2 : i = 1 + 7
        · rw [if_pos k2] at hrun
          have HRR := Aside0.mk hrun
          have c3 : ((i : Int) - 1) = 7 := by omega
          clear hrun hlt hc hv hvf hk HI k1 k2 hrp
          go_wp2_with (first
            | (go_at_call 74; (with_reducible refine (text_value.calls 2 c v _ HVF.out).mono ?_); rintro e w1 ⟨rfl, ⟨nd, rfl⟩⟩))
          go_ret2
          exact ⟨by rw [← HRR.out]; rfl, _, rfl⟩
        · rw [if_neg k2] at hrun
          have HRR := Aside0.mk hrun
          have c3 : (((i : Int) - 1) == 7) = false := by simp; omega
          have hp6 := pow_le6 (i - 1) (by omega)
          have hps : (16 : Nat) ^ (i + 1 - 1) = 16 ^ (i - 1) * 16 := (congrArg (fun n => (16 : Nat) ^ n) (by omega : i + 1 - 1 = (i - 1) + 1)).trans (Nat.pow_succ _ _)
          have hrb : r < 16777216 := by omega
          have hb2 : r * 16 + v < ((16 ^ (i + 1 - 1) : Nat) : Int) := by rw [hps]; omega
          have hb3 : 0 ≤ r * 16 + v := by omega
          have HB2 := Aside0.mk hb2
          clear hrun hlt hc hv hvf hk HI hrp hps hb2 hp6
          go_wp2_with (first
            | (go_at_call 74; (with_reducible refine (text_value.calls 2 c v _ HVF.out).mono ?_); rintro e w1 ⟨rfl, ⟨nd, rfl⟩⟩))
          go_roundg (1 + 7 - (i + 1))
          case measure => have := HK.out; omega
          case rel => exact ⟨i + 1, r * 16 + v, _, by go_num, by go_num, ⟨rfl, by omega, by omega, by omega, hb3, HB2.out, by rw [← hkk2]; exact HRR.out⟩, ⟨rfl⟩⟩
      · rw [if_neg (fun h => k1 h.2)] at hrun
        have e2 : ((i : Int) == (s.size : Int)) = false := by simp; omega
        have hxf := xml_f r
        by_cases hv0 : v < 0
        · have c1 : (v ≥ 0) = False := eq_false (by omega)
          by_cases k3 : i = 1
          · rw [if_pos (Or.inl k3)] at hrun
            have e1 : ((i : Int) == 1) = true := by rw [k3]; rfl
            have HRR := Aside0.mk hrun
            clear hrun hlt hc hv hvf hk HI hrp k1 hv0 hxf k3
            go_wp2_with (first
              | (go_at_call 74; (with_reducible refine (text_value.calls 2 c v _ HVF.out).mono ?_); rintro e w1 ⟨rfl, ⟨nd, rfl⟩⟩))
            go_ret2
            exact ⟨by rw [← HRR.out]; rfl, _, rfl⟩
          · have e1 : ((i : Int) == 1) = false := by simp; omega
            by_cases k4 : c = 59
            · have e3 : (c == 59) = true := by simpa using k4
              have e4 : (c = 59) = True := eq_true k4
              cases hx : xmlB r with
              | false =>
                rw [hx] at hxf
                have HXF := Aside0.mk hxf
                rw [if_pos (Or.inr (Or.inr (Or.inr hx)))] at hrun
                have HRR := Aside0.mk hrun
                clear hrun hlt hc hv hvf hk HI hrp k1 hv0 hxf k3 k4 hx
                go_wp2_with (first
                  | (go_at_call 74; (with_reducible refine (text_value.calls 2 c v _ HVF.out).mono ?_); rintro e w1 ⟨rfl, ⟨nd, rfl⟩⟩)
                  | (go_at_call 49; (with_reducible refine (text_XML.calls r _ _ HXF.out).mono ?_); rintro e w2 ⟨rfl, ⟨nd2, rfl⟩⟩))
                go_ret2
                exact ⟨by rw [← HRR.out]; rfl, _, rfl⟩
              | true =>
                rw [hx] at hxf
                have HXF := Aside0.mk hxf
                have hno : ¬ (i = 1 ∨ i = s.size ∨ c ≠ 59 ∨ xmlB r = false) := by rw [hx]; simp; omega
                rw [if_neg hno] at hrun
                have HRR := Aside0.mk hrun
                clear hrun hlt hc hv hvf hk HI hrp k1 hv0 hxf k3 k4 hx hno
                go_wp2_with (first
                  | (go_at_call 74; (with_reducible refine (text_value.calls 2 c v _ HVF.out).mono ?_); rintro e w1 ⟨rfl, ⟨nd, rfl⟩⟩)
                  | (go_at_call 49; (with_reducible refine (text_XML.calls r _ _ HXF.out).mono ?_); rintro e w2 ⟨rfl, ⟨nd2, rfl⟩⟩))
                go_ret2
                exact ⟨by rw [← HRR.out]; rfl, _, rfl⟩
            · have e3 : (c == 59) = false := by simpa using k4
              have e4 : (c = 59) = False := eq_false k4
              rw [if_pos (Or.inr (Or.inr (Or.inl k4)))] at hrun
              have HRR := Aside0.mk hrun
              clear hrun hlt hc hv hvf hk HI hrp k1 hv0 hxf k3 k4
              go_wp2_with (first
                | (go_at_call 74; (with_reducible refine (text_value.calls 2 c v _ HVF.out).mono ?_); rintro e w1 ⟨rfl, ⟨nd, rfl⟩⟩))
              go_ret2
              exact ⟨by rw [← HRR.out]; rfl, _, rfl⟩
        · exfalso; omega
    · have hi : i = s.size := by omega
      subst hi
      have q1 : ((s.size : Int) < (s.size : Int)) = False := eq_false (by omega)
      rw [if_neg (fun h => hlt h.1), if_pos (Or.inr (Or.inl rfl))] at hrun
      have HRR := Aside0.mk hrun
      have e1 : ((s.size : Int) == (s.size : Int)) = true := by simp
      by_cases k3 : s.size = 1
      · have e2 : ((s.size : Int) == 1) = true := by rw [k3]; rfl
        clear hrun hlt HI hrp k3
        go_wp2
        go_ret2
        exact ⟨by rw [← HRR.out]; rfl, _, rfl⟩
      · have e2 : ((s.size : Int) == 1) = false := beq_eq_false_iff_ne.mpr (by omega)
        clear hrun hlt HI hrp k3
        go_wp2
        go_ret2
        exact ⟨by rw [← HRR.out]; rfl, _, rfl⟩

set_option maxHeartbeats 4000000 in
set_option maxRecDepth 100000 in
theorem numbered_d (s : ByteArray) (w : World) (hs : s.size ≤ 140737488355328) (hp : ¬ (1 ≤ s.size ∧ bt s 0 = 120)) :
    Calls Tryz.prog 67 #[.string s] w fun e w' => e = .returned (.tuple #[.int .i64 (nrun s 10 0 9 0 0).1, .int .i64 (nrun s 10 0 9 0 0).2]) ∧ Drawn0 w w' := by
  have hpf := pfx1_f s
  rw [decide_eq_false hp] at hpf
  have HPF := Aside0.mk hpf
  obtain ⟨R, hR⟩ : ∃ R, nrun s 10 0 9 0 0 = R := ⟨_, rfl⟩
  rw [hR]
  have HR := Aside0.mk hR
  have hf : 0 ≤ s.size := by omega
  clear hpf hR
  go_enter Tryz.func67, Tryz.ntmps67
  go_wp2_with (first
    | (go_at_call 66; (with_reducible refine (strings_HasPrefix.calls s ⟨#[120]⟩ false _ HPF.out).mono ?_); rintro e w1 ⟨rfl, ⟨nd, rfl⟩⟩))
  go_loopg [2, 6] 7 (fun kq v2 v6 w' => ∃ (i : Nat) (r : Int) (nn : Nat), v2 = .int .i64 r ∧ v6 = .int .i64 i ∧ Aside0 (kq = 0 + 7 - i ∧ i ≤ 0 + 7 ∧ 0 ≤ i ∧ i ≤ s.size ∧ 0 ≤ r ∧ r < ((16 ^ (i - 0) : Nat) : Int) ∧ nrun s 10 0 (0 + 9 - i) i r = R) ∧ Aside0 (w' = w.drewN nn))
  case atStart => exact ⟨0, 0, _, rfl, rfl, ⟨rfl, by omega, by omega, hf, by omega, by decide, HR.out⟩, ⟨rfl⟩⟩
  case round =>
    obtain ⟨i, r, nn, rfl, rfl, HI, HW⟩ := hrel
    obtain ⟨hk, hi7, hfi, hile, hr0, hrp, hrun⟩ := HI.out
    have hww := HW.out
    subst hww
    have hgo : ∃ kk, 0 + 9 - i = kk + 1 ∧ kk = 0 + 9 - (i + 1) := ⟨_, by omega, rfl⟩
    obtain ⟨kk, hkk, hkk2⟩ := hgo
    rw [hkk, nrun] at hrun
    by_cases hlt : i < s.size
    · have hi : i < s.size := hlt
      have q5 : ((s[i]'hi).toNat : Int) = bt s (i : Int) := by have := bt_at s (i : Int) (by simpa using hi); simpa using this
      have q1 : ((i : Int) < (s.size : Int)) = True := eq_true (by omega)
      obtain ⟨c, hc⟩ : ∃ c, bt s (i : Int) = c := ⟨_, rfl⟩
      rw [hc] at q5 hrun
      have hvf := value_f 0 c
      have hvr := valI_range c
      obtain ⟨v, hv⟩ : ∃ v, valI c = v := ⟨_, rfl⟩
      rw [hv] at hvf hvr hrun
      have HVF := Aside0.mk hvf
      have HK := Aside0.mk hk
      by_cases k1 : 0 ≤ v ∧ v < 10
      · rw [if_pos ⟨hi, k1⟩] at hrun
        have c1 : (v ≥ 0) = True := eq_true k1.1
        have c2 : (v < 10) = True := eq_true k1.2
        by_cases k2 : i = 0 + 7
        · rw [if_pos k2] at hrun
          have HRR := Aside0.mk hrun
          have c3 : ((i : Int) - 0) = 7 := by omega
          clear hrun hlt hc hv hvf hk HI k1 k2 hrp
          go_wp2_with (first
            | (go_at_call 74; (with_reducible refine (text_value.calls 2 c v _ HVF.out).mono ?_); rintro e w1 ⟨rfl, ⟨nd, rfl⟩⟩))
          go_ret2
          exact ⟨by rw [← HRR.out]; rfl, _, rfl⟩
        · rw [if_neg k2] at hrun
          have HRR := Aside0.mk hrun
          have c3 : (((i : Int) - 0) == 7) = false := by simp; omega
          have hp6 := pow_le6 (i - 0) (by omega)
          have hps : (16 : Nat) ^ (i + 1 - 0) = 16 ^ (i - 0) * 16 := (congrArg (fun n => (16 : Nat) ^ n) (by omega : i + 1 - 0 = (i - 0) + 1)).trans (Nat.pow_succ _ _)
          have hrb : r < 16777216 := by omega
          have hb2 : r * 10 + v < ((16 ^ (i + 1 - 0) : Nat) : Int) := by rw [hps]; omega
          have hb3 : 0 ≤ r * 10 + v := by omega
          have HB2 := Aside0.mk hb2
          clear hrun hlt hc hv hvf hk HI hrp hps hb2 hp6
          go_wp2_with (first
            | (go_at_call 74; (with_reducible refine (text_value.calls 2 c v _ HVF.out).mono ?_); rintro e w1 ⟨rfl, ⟨nd, rfl⟩⟩))
          go_roundg (0 + 7 - (i + 1))
          case measure => have := HK.out; omega
          case rel => exact ⟨i + 1, r * 10 + v, _, by go_num, by go_num, ⟨rfl, by omega, by omega, by omega, hb3, HB2.out, by rw [← hkk2]; exact HRR.out⟩, ⟨rfl⟩⟩
      · rw [if_neg (fun h => k1 h.2)] at hrun
        have e2 : ((i : Int) == (s.size : Int)) = false := by simp; omega
        have hxf := xml_f r
        by_cases hv0 : v < 0
        · have c1 : (v ≥ 0) = False := eq_false (by omega)
          by_cases k3 : i = 0
          · rw [if_pos (Or.inl k3)] at hrun
            have e1 : ((i : Int) == 0) = true := by rw [k3]; rfl
            have HRR := Aside0.mk hrun
            clear hrun hlt hc hv hvf hk HI hrp k1 hv0 hxf k3
            go_wp2_with (first
              | (go_at_call 74; (with_reducible refine (text_value.calls 2 c v _ HVF.out).mono ?_); rintro e w1 ⟨rfl, ⟨nd, rfl⟩⟩))
            go_ret2
            exact ⟨by rw [← HRR.out]; rfl, _, rfl⟩
          · have e1 : ((i : Int) == 0) = false := by simp; omega
            by_cases k4 : c = 59
            · have e3 : (c == 59) = true := by simpa using k4
              have e4 : (c = 59) = True := eq_true k4
              cases hx : xmlB r with
              | false =>
                rw [hx] at hxf
                have HXF := Aside0.mk hxf
                rw [if_pos (Or.inr (Or.inr (Or.inr hx)))] at hrun
                have HRR := Aside0.mk hrun
                clear hrun hlt hc hv hvf hk HI hrp k1 hv0 hxf k3 k4 hx
                go_wp2_with (first
                  | (go_at_call 74; (with_reducible refine (text_value.calls 2 c v _ HVF.out).mono ?_); rintro e w1 ⟨rfl, ⟨nd, rfl⟩⟩)
                  | (go_at_call 49; (with_reducible refine (text_XML.calls r _ _ HXF.out).mono ?_); rintro e w2 ⟨rfl, ⟨nd2, rfl⟩⟩))
                go_ret2
                exact ⟨by rw [← HRR.out]; rfl, _, rfl⟩
              | true =>
                rw [hx] at hxf
                have HXF := Aside0.mk hxf
                have hno : ¬ (i = 0 ∨ i = s.size ∨ c ≠ 59 ∨ xmlB r = false) := by rw [hx]; simp; omega
                rw [if_neg hno] at hrun
                have HRR := Aside0.mk hrun
                clear hrun hlt hc hv hvf hk HI hrp k1 hv0 hxf k3 k4 hx hno
                go_wp2_with (first
                  | (go_at_call 74; (with_reducible refine (text_value.calls 2 c v _ HVF.out).mono ?_); rintro e w1 ⟨rfl, ⟨nd, rfl⟩⟩)
                  | (go_at_call 49; (with_reducible refine (text_XML.calls r _ _ HXF.out).mono ?_); rintro e w2 ⟨rfl, ⟨nd2, rfl⟩⟩))
                go_ret2
                exact ⟨by rw [← HRR.out]; rfl, _, rfl⟩
            · have e3 : (c == 59) = false := by simpa using k4
              have e4 : (c = 59) = False := eq_false k4
              rw [if_pos (Or.inr (Or.inr (Or.inl k4)))] at hrun
              have HRR := Aside0.mk hrun
              clear hrun hlt hc hv hvf hk HI hrp k1 hv0 hxf k3 k4
              go_wp2_with (first
                | (go_at_call 74; (with_reducible refine (text_value.calls 2 c v _ HVF.out).mono ?_); rintro e w1 ⟨rfl, ⟨nd, rfl⟩⟩))
              go_ret2
              exact ⟨by rw [← HRR.out]; rfl, _, rfl⟩
        · have c1 : (v ≥ 0) = True := eq_true (by omega)
          have c2 : (v < 10) = False := eq_false (by omega)
          by_cases k3 : i = 0
          · rw [if_pos (Or.inl k3)] at hrun
            have e1 : ((i : Int) == 0) = true := by rw [k3]; rfl
            have HRR := Aside0.mk hrun
            clear hrun hlt hc hv hvf hk HI hrp k1 hv0 hxf k3
            go_wp2_with (first
              | (go_at_call 74; (with_reducible refine (text_value.calls 2 c v _ HVF.out).mono ?_); rintro e w1 ⟨rfl, ⟨nd, rfl⟩⟩))
            go_ret2
            exact ⟨by rw [← HRR.out]; rfl, _, rfl⟩
          · have e1 : ((i : Int) == 0) = false := by simp; omega
            by_cases k4 : c = 59
            · have e3 : (c == 59) = true := by simpa using k4
              have e4 : (c = 59) = True := eq_true k4
              cases hx : xmlB r with
              | false =>
                rw [hx] at hxf
                have HXF := Aside0.mk hxf
                rw [if_pos (Or.inr (Or.inr (Or.inr hx)))] at hrun
                have HRR := Aside0.mk hrun
                clear hrun hlt hc hv hvf hk HI hrp k1 hv0 hxf k3 k4 hx
                go_wp2_with (first
                  | (go_at_call 74; (with_reducible refine (text_value.calls 2 c v _ HVF.out).mono ?_); rintro e w1 ⟨rfl, ⟨nd, rfl⟩⟩)
                  | (go_at_call 49; (with_reducible refine (text_XML.calls r _ _ HXF.out).mono ?_); rintro e w2 ⟨rfl, ⟨nd2, rfl⟩⟩))
                go_ret2
                exact ⟨by rw [← HRR.out]; rfl, _, rfl⟩
              | true =>
                rw [hx] at hxf
                have HXF := Aside0.mk hxf
                have hno : ¬ (i = 0 ∨ i = s.size ∨ c ≠ 59 ∨ xmlB r = false) := by rw [hx]; simp; omega
                rw [if_neg hno] at hrun
                have HRR := Aside0.mk hrun
                clear hrun hlt hc hv hvf hk HI hrp k1 hv0 hxf k3 k4 hx hno
                go_wp2_with (first
                  | (go_at_call 74; (with_reducible refine (text_value.calls 2 c v _ HVF.out).mono ?_); rintro e w1 ⟨rfl, ⟨nd, rfl⟩⟩)
                  | (go_at_call 49; (with_reducible refine (text_XML.calls r _ _ HXF.out).mono ?_); rintro e w2 ⟨rfl, ⟨nd2, rfl⟩⟩))
                go_ret2
                exact ⟨by rw [← HRR.out]; rfl, _, rfl⟩
            · have e3 : (c == 59) = false := by simpa using k4
              have e4 : (c = 59) = False := eq_false k4
              rw [if_pos (Or.inr (Or.inr (Or.inl k4)))] at hrun
              have HRR := Aside0.mk hrun
              clear hrun hlt hc hv hvf hk HI hrp k1 hv0 hxf k3 k4
              go_wp2_with (first
                | (go_at_call 74; (with_reducible refine (text_value.calls 2 c v _ HVF.out).mono ?_); rintro e w1 ⟨rfl, ⟨nd, rfl⟩⟩))
              go_ret2
              exact ⟨by rw [← HRR.out]; rfl, _, rfl⟩
    · have hi : i = s.size := by omega
      subst hi
      have q1 : ((s.size : Int) < (s.size : Int)) = False := eq_false (by omega)
      rw [if_neg (fun h => hlt h.1), if_pos (Or.inr (Or.inl rfl))] at hrun
      have HRR := Aside0.mk hrun
      have e1 : ((s.size : Int) == (s.size : Int)) = true := by simp
      by_cases k3 : s.size = 0
      · have e2 : ((s.size : Int) == 0) = true := by rw [k3]; rfl
        clear hrun hlt HI hrp k3
        go_wp2
        go_ret2
        exact ⟨by rw [← HRR.out]; rfl, _, rfl⟩
      · have e2 : ((s.size : Int) == 0) = false := beq_eq_false_iff_ne.mpr (by omega)
        clear hrun hlt HI hrp k3
        go_wp2
        go_ret2
        exact ⟨by rw [← HRR.out]; rfl, _, rfl⟩
end Go.Proofs.YtgdfgahpjebcaaaGreatDoor
/-
  text.Reference, walked.
-/
namespace Go.Proofs.YtgdfgahpjebcaaaGreatDoor
open Go.RowKit Go.Proofs.YtgdfgahpjebcaaaGreatDoorW.PrintWords Go.Proofs.YtgdfgahpjebcaaaGreatDoor.PT

/-- Does a text begin with another? -/
def pfxB (s p : ByteArray) : Bool := s.data.toList.take p.size == p.data.toList
theorem hp_f (s p : ByteArray) : strings_HasPrefix.f s p = some (pfxB s p) := by
  unfold strings_HasPrefix.f stringslite_HasPrefix.f pfxB
  have hls := data_length s
  have hlp := data_length p
  by_cases h : p.size ≤ s.size
  · rw [if_pos (by omega), if_pos (by omega), if_pos (by omega), Option.bind_some]
    have e : (((p.size : Nat) : Int) : Int).toNat = p.size := by omega
    rw [e, Lib.toList_data, Lib.toList_data, ByteArray.data_extract, Array.toList_extract]
    simp
  · rw [if_neg (by omega), Option.bind_some]
    congr 1
    symm
    rw [beq_eq_false_iff_ne]
    intro he
    have := congrArg List.length he
    rw [List.length_take] at this
    omega

theorem nrun_range (s : ByteArray) (base : Int) (f : Nat) : ∀ k i r, (nrun s base f k i r).2 = 0 ∨ (1 ≤ (nrun s base f k i r).2 ∧ (nrun s base f k i r).2 ≤ s.size ∧ xmlB (nrun s base f k i r).1 = true) := by
  intro k
  induction k with
  | zero => intro i r; exact .inl rfl
  | succ k ih =>
    intro i r
    rw [nrun]
    split
    · split
      · exact .inl rfl
      · exact ih _ _
    · rename_i h1
      split
      · exact .inl rfl
      · rename_i h2
        have h59 : bt s i = 59 := by
          by_cases h : bt s i = 59
          · exact h
          · exact absurd (Or.inr (Or.inr (Or.inl h))) h2
        have hlt : i < s.size := by
          by_cases h : i < s.size
          · exact h
          · exfalso
            have : bt s (i : Int) = 0 := by unfold bt; rw [dif_neg (by simpa using h)]
            omega
        refine .inr ⟨by simp only []; omega, by simp only []; omega, ?_⟩
        cases hx : xmlB r with
        | true => rfl
        | false => exact absurd (Or.inr (Or.inr (Or.inr hx))) h2
theorem numI_range (s : ByteArray) : (numI s).2 = 0 ∨ (1 ≤ (numI s).2 ∧ (numI s).2 ≤ s.size ∧ xmlB (numI s).1 = true) := by
  unfold numI
  split
  · exact nrun_range _ _ _ _ _ _
  · exact nrun_range _ _ _ _ _ _
theorem numbered_any (s : ByteArray) (w : World) (hs : s.size ≤ 140737488355328) :
    Calls Tryz.prog 67 #[.string s] w fun e w' => e = .returned (.tuple #[.int .i64 (numI s).1, .int .i64 (numI s).2]) ∧ Drawn0 w w' := by
  unfold numI
  by_cases hp : 1 ≤ s.size ∧ bt s 0 = 120
  · rw [if_pos hp]; exact numbered_x s w hs hp
  · rw [if_neg hp]; exact numbered_d s w hs hp

/-- What the names of text.Reference answer, from the j-th on. -/
def nameAt : Nat → ByteArray × Int
  | 0 => (⟨#[38, 97, 109, 112, 59]⟩, 38)
  | 1 => (⟨#[38, 108, 116, 59]⟩, 60)
  | 2 => (⟨#[38, 103, 116, 59]⟩, 62)
  | 3 => (⟨#[38, 113, 117, 111, 116, 59]⟩, 34)
  | _ => (⟨#[38, 97, 112, 111, 115, 59]⟩, 39)
def nameI (s : ByteArray) : Nat → Nat → Int × Int
  | 0, _ => (0, 0)
  | k + 1, j => if pfxB s (nameAt j).1 then ((nameAt j).2, ((nameAt j).1.size : Int)) else nameI s k (j + 1)
/-- What text.Reference answers. -/
def refI (s : ByteArray) : Int × Int :=
  if pfxB s ⟨#[38, 35]⟩ then (if 0 < (numI (s.extract 2 s.size)).2 then ((numI (s.extract 2 s.size)).1, (numI (s.extract 2 s.size)).2 + 2) else (0, 0)) else nameI s 5 0

theorem pfxB_size (s p : ByteArray) (h : pfxB s p = true) : p.size ≤ s.size := by
  unfold pfxB at h
  have := congrArg List.length (eq_of_beq h)
  rw [List.length_take, data_length, data_length] at this
  omega

set_option maxHeartbeats 4000000 in
set_option maxRecDepth 100000 in
theorem reference_num (s : ByteArray) (w : World) (hs : s.size ≤ 140737488355328) (hp : pfxB s ⟨#[38, 35]⟩ = true) :
    Calls Tryz.prog 50 #[.string s] w fun e w' => e = .returned (.tuple #[.int .i64 (refI s).1, .int .i64 (refI s).2]) ∧ Below w.heap.size w w' := by
  have hpf := hp_f s ⟨#[38, 35]⟩
  rw [hp] at hpf
  have HPF := Aside0.mk hpf
  have hz := pfxB_size s _ hp
  obtain ⟨R, hR⟩ : ∃ R, refI s = R := ⟨_, rfl⟩
  rw [hR]
  unfold refI at hR
  rw [if_pos hp] at hR
  have hnr := numI_range (s.extract 2 s.size)
  have hez : (s.extract 2 s.size).size = s.size - 2 := by simp
  rw [hez] at hnr
  have HN := fun w => numbered_any (s.extract 2 s.size) w (by omega)
  obtain ⟨r, n, hrn⟩ : ∃ r n, numI (s.extract 2 s.size) = (r, n) := ⟨_, _, rfl⟩
  rw [hrn] at hR HN hnr
  have HNN := Aside0.mk HN
  have z2 : (2 : Int) ≤ (s.size : Int) := by have : (⟨#[38, 35]⟩ : ByteArray).size = 2 := rfl; omega
  simp only at hR hnr
  have hnn : 0 ≤ n ∧ n ≤ s.size := by omega
  by_cases hn : 0 < n
  · rw [if_pos hn] at hR
    have HR := Aside0.mk hR
    have c1 : (n > 0) = True := eq_true hn
    clear hp hpf hR HN hrn hnr hez
    go_enter Tryz.func50, Tryz.ntmps50
    go_wp2_with (first
      | (go_at_call 66; (with_reducible refine (strings_HasPrefix.calls s ⟨#[38, 35]⟩ true _ HPF.out).mono ?_); rintro e w1 ⟨rfl, ⟨nd, rfl⟩⟩)
      | (go_at_call 67; (with_reducible refine (HNN.out _).mono ?_); rintro e w1 ⟨rfl, ⟨nd2, rfl⟩⟩))
    go_ret2
    exact ⟨by rw [← HR.out]; rfl, bl_drewN (Below.refl _ _) _⟩
  · rw [if_neg hn] at hR
    have HR := Aside0.mk hR
    have c1 : (n > 0) = False := eq_false hn
    clear hp hpf hR HN hrn hnr hez
    go_enter Tryz.func50, Tryz.ntmps50
    go_wp2_with (first
      | (go_at_call 66; (with_reducible refine (strings_HasPrefix.calls s ⟨#[38, 35]⟩ true _ HPF.out).mono ?_); rintro e w1 ⟨rfl, ⟨nd, rfl⟩⟩)
      | (go_at_call 67; (with_reducible refine (HNN.out _).mono ?_); rintro e w1 ⟨rfl, ⟨nd2, rfl⟩⟩))
    go_ret2
    exact ⟨by rw [← HR.out]; rfl, bl_drewN (Below.refl _ _) _⟩

abbrev zeros10 : Array Value := #[.string ⟨#[]⟩, .int .i64 0, .string ⟨#[]⟩, .int .i64 0, .string ⟨#[]⟩, .int .i64 0, .string ⟨#[]⟩, .int .i64 0, .string ⟨#[]⟩, .int .i64 0]
abbrev names10 : Array Value := #[.string ⟨#[38, 97, 109, 112, 59]⟩, .int .i64 38, .string ⟨#[38, 108, 116, 59]⟩, .int .i64 60, .string ⟨#[38, 103, 116, 59]⟩, .int .i64 62, .string ⟨#[38, 113, 117, 111, 116, 59]⟩, .int .i64 34, .string ⟨#[38, 97, 112, 111, 115, 59]⟩, .int .i64 39]
theorem idx0 (W : World) : (Instr.index 110 (.agg #[.string ⟨#[38, 97, 109, 112, 59]⟩, .int .i64 38, .string ⟨#[38, 108, 116, 59]⟩, .int .i64 60, .string ⟨#[38, 103, 116, 59]⟩, .int .i64 62, .string ⟨#[38, 113, 117, 111, 116, 59]⟩, .int .i64 34, .string ⟨#[38, 97, 112, 111, 115, 59]⟩, .int .i64 39]) (.int .i64 0)).run Tryz.prog W = .ok (.agg #[.string ⟨#[38, 97, 109, 112, 59]⟩, .int .i64 38]) W := by kernel_rfl
theorem idx1 (W : World) : (Instr.index 110 (.agg #[.string ⟨#[38, 97, 109, 112, 59]⟩, .int .i64 38, .string ⟨#[38, 108, 116, 59]⟩, .int .i64 60, .string ⟨#[38, 103, 116, 59]⟩, .int .i64 62, .string ⟨#[38, 113, 117, 111, 116, 59]⟩, .int .i64 34, .string ⟨#[38, 97, 112, 111, 115, 59]⟩, .int .i64 39]) (.int .i64 1)).run Tryz.prog W = .ok (.agg #[.string ⟨#[38, 108, 116, 59]⟩, .int .i64 60]) W := by kernel_rfl
theorem idx2 (W : World) : (Instr.index 110 (.agg #[.string ⟨#[38, 97, 109, 112, 59]⟩, .int .i64 38, .string ⟨#[38, 108, 116, 59]⟩, .int .i64 60, .string ⟨#[38, 103, 116, 59]⟩, .int .i64 62, .string ⟨#[38, 113, 117, 111, 116, 59]⟩, .int .i64 34, .string ⟨#[38, 97, 112, 111, 115, 59]⟩, .int .i64 39]) (.int .i64 2)).run Tryz.prog W = .ok (.agg #[.string ⟨#[38, 103, 116, 59]⟩, .int .i64 62]) W := by kernel_rfl
theorem idx3 (W : World) : (Instr.index 110 (.agg #[.string ⟨#[38, 97, 109, 112, 59]⟩, .int .i64 38, .string ⟨#[38, 108, 116, 59]⟩, .int .i64 60, .string ⟨#[38, 103, 116, 59]⟩, .int .i64 62, .string ⟨#[38, 113, 117, 111, 116, 59]⟩, .int .i64 34, .string ⟨#[38, 97, 112, 111, 115, 59]⟩, .int .i64 39]) (.int .i64 3)).run Tryz.prog W = .ok (.agg #[.string ⟨#[38, 113, 117, 111, 116, 59]⟩, .int .i64 34]) W := by kernel_rfl
theorem idx4 (W : World) : (Instr.index 110 (.agg #[.string ⟨#[38, 97, 109, 112, 59]⟩, .int .i64 38, .string ⟨#[38, 108, 116, 59]⟩, .int .i64 60, .string ⟨#[38, 103, 116, 59]⟩, .int .i64 62, .string ⟨#[38, 113, 117, 111, 116, 59]⟩, .int .i64 34, .string ⟨#[38, 97, 112, 111, 115, 59]⟩, .int .i64 39]) (.int .i64 4)).run Tryz.prog W = .ok (.agg #[.string ⟨#[38, 97, 112, 111, 115, 59]⟩, .int .i64 39]) W := by kernel_rfl
theorem size121 : (Tryz.prog.info? 110).map (·.size) = some (names10.size) := by kernel_rfl

set_option maxHeartbeats 4000000 in
set_option maxRecDepth 100000 in
theorem reference_name (s : ByteArray) (w : World) (hs : s.size ≤ 140737488355328) (hp : pfxB s ⟨#[38, 35]⟩ = false) :
    Calls Tryz.prog 50 #[.string s] w fun e w' => e = .returned (.tuple #[.int .i64 (refI s).1, .int .i64 (refI s).2]) ∧ Below w.heap.size w w' := by
  have hpf := hp_f s ⟨#[38, 35]⟩
  rw [hp] at hpf
  have HPF := Aside0.mk hpf
  obtain ⟨R, hR⟩ : ∃ R, refI s = R := ⟨_, rfl⟩
  rw [hR]
  unfold refI at hR
  rw [if_neg (by rw [hp]; decide)] at hR
  have HR := Aside0.mk hR
  clear hp hpf hR
  have hc0 : ∀ nd, ((w.drewN nd).alloc (.cells #[.string ⟨#[]⟩, .int .i64 0, .string ⟨#[]⟩, .int .i64 0, .string ⟨#[]⟩, .int .i64 0, .string ⟨#[]⟩, .int .i64 0, .string ⟨#[]⟩, .int .i64 0] 110)).cell? ⟨w.heap.size, 0, none⟩ = some (.string ⟨#[]⟩) := fun nd => (Lib.cell_of_heap (heap_alloc_new (w.drewN nd) _) 0).trans rfl
  have hz0 : ∀ nd, ((w.drewN nd).alloc (.cells #[.string ⟨#[]⟩, .int .i64 0, .string ⟨#[]⟩, .int .i64 0, .string ⟨#[]⟩, .int .i64 0, .string ⟨#[]⟩, .int .i64 0, .string ⟨#[]⟩, .int .i64 0] 110)).frozen? ⟨w.heap.size, 0, none⟩ = false := fun nd => Lib.frozen_of_heap (heap_alloc_new (w.drewN nd) _) 0
  have hc1 : ∀ nd, ((w.drewN nd).alloc (.cells #[.string ⟨#[]⟩, .int .i64 0, .string ⟨#[]⟩, .int .i64 0, .string ⟨#[]⟩, .int .i64 0, .string ⟨#[]⟩, .int .i64 0, .string ⟨#[]⟩, .int .i64 0] 110)).cell? ⟨w.heap.size, 1, none⟩ = some (.int .i64 0) := fun nd => (Lib.cell_of_heap (heap_alloc_new (w.drewN nd) _) 1).trans rfl
  have hz1 : ∀ nd, ((w.drewN nd).alloc (.cells #[.string ⟨#[]⟩, .int .i64 0, .string ⟨#[]⟩, .int .i64 0, .string ⟨#[]⟩, .int .i64 0, .string ⟨#[]⟩, .int .i64 0, .string ⟨#[]⟩, .int .i64 0] 110)).frozen? ⟨w.heap.size, 1, none⟩ = false := fun nd => Lib.frozen_of_heap (heap_alloc_new (w.drewN nd) _) 1
  have hc2 : ∀ nd, ((w.drewN nd).alloc (.cells #[.string ⟨#[]⟩, .int .i64 0, .string ⟨#[]⟩, .int .i64 0, .string ⟨#[]⟩, .int .i64 0, .string ⟨#[]⟩, .int .i64 0, .string ⟨#[]⟩, .int .i64 0] 110)).cell? ⟨w.heap.size, 2, none⟩ = some (.string ⟨#[]⟩) := fun nd => (Lib.cell_of_heap (heap_alloc_new (w.drewN nd) _) 2).trans rfl
  have hz2 : ∀ nd, ((w.drewN nd).alloc (.cells #[.string ⟨#[]⟩, .int .i64 0, .string ⟨#[]⟩, .int .i64 0, .string ⟨#[]⟩, .int .i64 0, .string ⟨#[]⟩, .int .i64 0, .string ⟨#[]⟩, .int .i64 0] 110)).frozen? ⟨w.heap.size, 2, none⟩ = false := fun nd => Lib.frozen_of_heap (heap_alloc_new (w.drewN nd) _) 2
  have hc3 : ∀ nd, ((w.drewN nd).alloc (.cells #[.string ⟨#[]⟩, .int .i64 0, .string ⟨#[]⟩, .int .i64 0, .string ⟨#[]⟩, .int .i64 0, .string ⟨#[]⟩, .int .i64 0, .string ⟨#[]⟩, .int .i64 0] 110)).cell? ⟨w.heap.size, 3, none⟩ = some (.int .i64 0) := fun nd => (Lib.cell_of_heap (heap_alloc_new (w.drewN nd) _) 3).trans rfl
  have hz3 : ∀ nd, ((w.drewN nd).alloc (.cells #[.string ⟨#[]⟩, .int .i64 0, .string ⟨#[]⟩, .int .i64 0, .string ⟨#[]⟩, .int .i64 0, .string ⟨#[]⟩, .int .i64 0, .string ⟨#[]⟩, .int .i64 0] 110)).frozen? ⟨w.heap.size, 3, none⟩ = false := fun nd => Lib.frozen_of_heap (heap_alloc_new (w.drewN nd) _) 3
  have hc4 : ∀ nd, ((w.drewN nd).alloc (.cells #[.string ⟨#[]⟩, .int .i64 0, .string ⟨#[]⟩, .int .i64 0, .string ⟨#[]⟩, .int .i64 0, .string ⟨#[]⟩, .int .i64 0, .string ⟨#[]⟩, .int .i64 0] 110)).cell? ⟨w.heap.size, 4, none⟩ = some (.string ⟨#[]⟩) := fun nd => (Lib.cell_of_heap (heap_alloc_new (w.drewN nd) _) 4).trans rfl
  have hz4 : ∀ nd, ((w.drewN nd).alloc (.cells #[.string ⟨#[]⟩, .int .i64 0, .string ⟨#[]⟩, .int .i64 0, .string ⟨#[]⟩, .int .i64 0, .string ⟨#[]⟩, .int .i64 0, .string ⟨#[]⟩, .int .i64 0] 110)).frozen? ⟨w.heap.size, 4, none⟩ = false := fun nd => Lib.frozen_of_heap (heap_alloc_new (w.drewN nd) _) 4
  have hc5 : ∀ nd, ((w.drewN nd).alloc (.cells #[.string ⟨#[]⟩, .int .i64 0, .string ⟨#[]⟩, .int .i64 0, .string ⟨#[]⟩, .int .i64 0, .string ⟨#[]⟩, .int .i64 0, .string ⟨#[]⟩, .int .i64 0] 110)).cell? ⟨w.heap.size, 5, none⟩ = some (.int .i64 0) := fun nd => (Lib.cell_of_heap (heap_alloc_new (w.drewN nd) _) 5).trans rfl
  have hz5 : ∀ nd, ((w.drewN nd).alloc (.cells #[.string ⟨#[]⟩, .int .i64 0, .string ⟨#[]⟩, .int .i64 0, .string ⟨#[]⟩, .int .i64 0, .string ⟨#[]⟩, .int .i64 0, .string ⟨#[]⟩, .int .i64 0] 110)).frozen? ⟨w.heap.size, 5, none⟩ = false := fun nd => Lib.frozen_of_heap (heap_alloc_new (w.drewN nd) _) 5
  have hc6 : ∀ nd, ((w.drewN nd).alloc (.cells #[.string ⟨#[]⟩, .int .i64 0, .string ⟨#[]⟩, .int .i64 0, .string ⟨#[]⟩, .int .i64 0, .string ⟨#[]⟩, .int .i64 0, .string ⟨#[]⟩, .int .i64 0] 110)).cell? ⟨w.heap.size, 6, none⟩ = some (.string ⟨#[]⟩) := fun nd => (Lib.cell_of_heap (heap_alloc_new (w.drewN nd) _) 6).trans rfl
  have hz6 : ∀ nd, ((w.drewN nd).alloc (.cells #[.string ⟨#[]⟩, .int .i64 0, .string ⟨#[]⟩, .int .i64 0, .string ⟨#[]⟩, .int .i64 0, .string ⟨#[]⟩, .int .i64 0, .string ⟨#[]⟩, .int .i64 0] 110)).frozen? ⟨w.heap.size, 6, none⟩ = false := fun nd => Lib.frozen_of_heap (heap_alloc_new (w.drewN nd) _) 6
  have hc7 : ∀ nd, ((w.drewN nd).alloc (.cells #[.string ⟨#[]⟩, .int .i64 0, .string ⟨#[]⟩, .int .i64 0, .string ⟨#[]⟩, .int .i64 0, .string ⟨#[]⟩, .int .i64 0, .string ⟨#[]⟩, .int .i64 0] 110)).cell? ⟨w.heap.size, 7, none⟩ = some (.int .i64 0) := fun nd => (Lib.cell_of_heap (heap_alloc_new (w.drewN nd) _) 7).trans rfl
  have hz7 : ∀ nd, ((w.drewN nd).alloc (.cells #[.string ⟨#[]⟩, .int .i64 0, .string ⟨#[]⟩, .int .i64 0, .string ⟨#[]⟩, .int .i64 0, .string ⟨#[]⟩, .int .i64 0, .string ⟨#[]⟩, .int .i64 0] 110)).frozen? ⟨w.heap.size, 7, none⟩ = false := fun nd => Lib.frozen_of_heap (heap_alloc_new (w.drewN nd) _) 7
  have hc8 : ∀ nd, ((w.drewN nd).alloc (.cells #[.string ⟨#[]⟩, .int .i64 0, .string ⟨#[]⟩, .int .i64 0, .string ⟨#[]⟩, .int .i64 0, .string ⟨#[]⟩, .int .i64 0, .string ⟨#[]⟩, .int .i64 0] 110)).cell? ⟨w.heap.size, 8, none⟩ = some (.string ⟨#[]⟩) := fun nd => (Lib.cell_of_heap (heap_alloc_new (w.drewN nd) _) 8).trans rfl
  have hz8 : ∀ nd, ((w.drewN nd).alloc (.cells #[.string ⟨#[]⟩, .int .i64 0, .string ⟨#[]⟩, .int .i64 0, .string ⟨#[]⟩, .int .i64 0, .string ⟨#[]⟩, .int .i64 0, .string ⟨#[]⟩, .int .i64 0] 110)).frozen? ⟨w.heap.size, 8, none⟩ = false := fun nd => Lib.frozen_of_heap (heap_alloc_new (w.drewN nd) _) 8
  have hc9 : ∀ nd, ((w.drewN nd).alloc (.cells #[.string ⟨#[]⟩, .int .i64 0, .string ⟨#[]⟩, .int .i64 0, .string ⟨#[]⟩, .int .i64 0, .string ⟨#[]⟩, .int .i64 0, .string ⟨#[]⟩, .int .i64 0] 110)).cell? ⟨w.heap.size, 9, none⟩ = some (.int .i64 0) := fun nd => (Lib.cell_of_heap (heap_alloc_new (w.drewN nd) _) 9).trans rfl
  have hz9 : ∀ nd, ((w.drewN nd).alloc (.cells #[.string ⟨#[]⟩, .int .i64 0, .string ⟨#[]⟩, .int .i64 0, .string ⟨#[]⟩, .int .i64 0, .string ⟨#[]⟩, .int .i64 0, .string ⟨#[]⟩, .int .i64 0] 110)).frozen? ⟨w.heap.size, 9, none⟩ = false := fun nd => Lib.frozen_of_heap (heap_alloc_new (w.drewN nd) _) 9
  go_enter Tryz.func50, Tryz.ntmps50
  go_wp2_with (first
    | (go_at_call 66; (with_reducible refine (strings_HasPrefix.calls s ⟨#[38, 35]⟩ false _ HPF.out).mono ?_); rintro e w1 ⟨rfl, ⟨nd, rfl⟩⟩))
  clear hc0 hz0 hc1 hz1 hc2 hz2 hc3 hz3 hc4 hz4 hc5 hz5 hc6 hz6 hc7 hz7 hc8 hz8 hc9 hz9
  go_loopg [27] 5 (fun kq v27 w' => ∃ j : Nat, v27 = .int .i64 j ∧ Aside0 (kq = 5 - j ∧ j ≤ 5 ∧ nameI s (5 - j) j = R) ∧ Aside0 (Below w.heap.size w w'))
  case atStart => exact ⟨0, rfl, ⟨rfl, by omega, HR.out⟩, ⟨by ((repeat' (first | (with_reducible refine bl_set ?_ ?_ _) | (with_reducible refine bl_alloc ?_ _) | (with_reducible refine bl_drewN ?_ _))) <;> (first | (with_reducible exact (Below.refl _ _)) | exact (Nat.le_refl _)))⟩⟩
  case round =>
    obtain ⟨j, rfl, HI, HB⟩ := hrel
    obtain ⟨hk, hj5, hrun⟩ := HI.out
    have hsz := HB.out.size
    have hj : j = 0 ∨ j = 1 ∨ j = 2 ∨ j = 3 ∨ j = 4 ∨ j = 5 := by omega
    have hcl : ∀ nd, ((wr.drewN nd).alloc (.cells #[.string ⟨#[]⟩, .int .i64 0] 109)).cell? ⟨wr.heap.size, 0, none⟩ = some (.string ⟨#[]⟩) := fun nd => (Lib.cell_of_heap (heap_alloc_new (wr.drewN nd) _) 0).trans rfl
    rcases hj with rfl | rfl | rfl | rfl | rfl | rfl
    · rw [show 5 - 0 = 4 + 1 from rfl, nameI] at hrun
      have hix := idx0 wr
      have hpf := hp_f s ⟨#[38, 97, 109, 112, 59]⟩
      obtain ⟨b, hb⟩ : ∃ b, pfxB s ⟨#[38, 97, 109, 112, 59]⟩ = b := ⟨_, rfl⟩
      rw [hb] at hpf
      have HPF2 := Aside0.mk hpf
      cases b with
      | true =>
        rw [if_pos (show pfxB s (nameAt 0).1 = true from hb)] at hrun
        have HRR := Aside0.mk hrun
        clear hrun hpf hb HI hk
        go_wp2_with (first
          | (go_at_call 66; (with_reducible refine (strings_HasPrefix.calls s ⟨#[38, 97, 109, 112, 59]⟩ true _ HPF2.out).mono ?_); rintro e w1 ⟨rfl, ⟨nd, rfl⟩⟩))
        go_quiet (fail)
        go_wp2
        go_ret2
        exact ⟨by rw [← HRR.out]; rfl, by ((repeat' (first | (with_reducible refine bl_set ?_ ?_ _) | (with_reducible refine bl_alloc ?_ _) | (with_reducible refine bl_drewN ?_ _))) <;> (first | (with_reducible exact HB.out) | exact hsz))⟩
      | false =>
        rw [if_neg (by show ¬ (pfxB s ⟨#[38, 97, 109, 112, 59]⟩ = true); rw [hb]; decide)] at hrun
        have HRR := Aside0.mk hrun
        have HK := Aside0.mk hk
        clear hrun hpf hb HI hk
        go_wp2_with (first
          | (go_at_call 66; (with_reducible refine (strings_HasPrefix.calls s ⟨#[38, 97, 109, 112, 59]⟩ false _ HPF2.out).mono ?_); rintro e w1 ⟨rfl, ⟨nd, rfl⟩⟩))
        go_roundg 4
        case measure => have := HK.out; omega
        case rel => exact ⟨1, by go_num, ⟨rfl, by omega, HRR.out⟩, ⟨by ((repeat' (first | (with_reducible refine bl_set ?_ ?_ _) | (with_reducible refine bl_alloc ?_ _) | (with_reducible refine bl_drewN ?_ _))) <;> (first | (with_reducible exact HB.out) | exact hsz))⟩⟩
    · rw [show 5 - 1 = 3 + 1 from rfl, nameI] at hrun
      have hix := idx1 wr
      have hpf := hp_f s ⟨#[38, 108, 116, 59]⟩
      obtain ⟨b, hb⟩ : ∃ b, pfxB s ⟨#[38, 108, 116, 59]⟩ = b := ⟨_, rfl⟩
      rw [hb] at hpf
      have HPF2 := Aside0.mk hpf
      cases b with
      | true =>
        rw [if_pos (show pfxB s (nameAt 1).1 = true from hb)] at hrun
        have HRR := Aside0.mk hrun
        clear hrun hpf hb HI hk
        go_wp2_with (first
          | (go_at_call 66; (with_reducible refine (strings_HasPrefix.calls s ⟨#[38, 108, 116, 59]⟩ true _ HPF2.out).mono ?_); rintro e w1 ⟨rfl, ⟨nd, rfl⟩⟩))
        go_quiet (fail)
        go_wp2
        go_ret2
        exact ⟨by rw [← HRR.out]; rfl, by ((repeat' (first | (with_reducible refine bl_set ?_ ?_ _) | (with_reducible refine bl_alloc ?_ _) | (with_reducible refine bl_drewN ?_ _))) <;> (first | (with_reducible exact HB.out) | exact hsz))⟩
      | false =>
        rw [if_neg (by show ¬ (pfxB s ⟨#[38, 108, 116, 59]⟩ = true); rw [hb]; decide)] at hrun
        have HRR := Aside0.mk hrun
        have HK := Aside0.mk hk
        clear hrun hpf hb HI hk
        go_wp2_with (first
          | (go_at_call 66; (with_reducible refine (strings_HasPrefix.calls s ⟨#[38, 108, 116, 59]⟩ false _ HPF2.out).mono ?_); rintro e w1 ⟨rfl, ⟨nd, rfl⟩⟩))
        go_roundg 3
        case measure => have := HK.out; omega
        case rel => exact ⟨2, by go_num, ⟨rfl, by omega, HRR.out⟩, ⟨by ((repeat' (first | (with_reducible refine bl_set ?_ ?_ _) | (with_reducible refine bl_alloc ?_ _) | (with_reducible refine bl_drewN ?_ _))) <;> (first | (with_reducible exact HB.out) | exact hsz))⟩⟩
    · rw [show 5 - 2 = 2 + 1 from rfl, nameI] at hrun
      have hix := idx2 wr
      have hpf := hp_f s ⟨#[38, 103, 116, 59]⟩
      obtain ⟨b, hb⟩ : ∃ b, pfxB s ⟨#[38, 103, 116, 59]⟩ = b := ⟨_, rfl⟩
      rw [hb] at hpf
      have HPF2 := Aside0.mk hpf
      cases b with
      | true =>
        rw [if_pos (show pfxB s (nameAt 2).1 = true from hb)] at hrun
        have HRR := Aside0.mk hrun
        clear hrun hpf hb HI hk
        go_wp2_with (first
          | (go_at_call 66; (with_reducible refine (strings_HasPrefix.calls s ⟨#[38, 103, 116, 59]⟩ true _ HPF2.out).mono ?_); rintro e w1 ⟨rfl, ⟨nd, rfl⟩⟩))
        go_quiet (fail)
        go_wp2
        go_ret2
        exact ⟨by rw [← HRR.out]; rfl, by ((repeat' (first | (with_reducible refine bl_set ?_ ?_ _) | (with_reducible refine bl_alloc ?_ _) | (with_reducible refine bl_drewN ?_ _))) <;> (first | (with_reducible exact HB.out) | exact hsz))⟩
      | false =>
        rw [if_neg (by show ¬ (pfxB s ⟨#[38, 103, 116, 59]⟩ = true); rw [hb]; decide)] at hrun
        have HRR := Aside0.mk hrun
        have HK := Aside0.mk hk
        clear hrun hpf hb HI hk
        go_wp2_with (first
          | (go_at_call 66; (with_reducible refine (strings_HasPrefix.calls s ⟨#[38, 103, 116, 59]⟩ false _ HPF2.out).mono ?_); rintro e w1 ⟨rfl, ⟨nd, rfl⟩⟩))
        go_roundg 2
        case measure => have := HK.out; omega
        case rel => exact ⟨3, by go_num, ⟨rfl, by omega, HRR.out⟩, ⟨by ((repeat' (first | (with_reducible refine bl_set ?_ ?_ _) | (with_reducible refine bl_alloc ?_ _) | (with_reducible refine bl_drewN ?_ _))) <;> (first | (with_reducible exact HB.out) | exact hsz))⟩⟩
    · rw [show 5 - 3 = 1 + 1 from rfl, nameI] at hrun
      have hix := idx3 wr
      have hpf := hp_f s ⟨#[38, 113, 117, 111, 116, 59]⟩
      obtain ⟨b, hb⟩ : ∃ b, pfxB s ⟨#[38, 113, 117, 111, 116, 59]⟩ = b := ⟨_, rfl⟩
      rw [hb] at hpf
      have HPF2 := Aside0.mk hpf
      cases b with
      | true =>
        rw [if_pos (show pfxB s (nameAt 3).1 = true from hb)] at hrun
        have HRR := Aside0.mk hrun
        clear hrun hpf hb HI hk
        go_wp2_with (first
          | (go_at_call 66; (with_reducible refine (strings_HasPrefix.calls s ⟨#[38, 113, 117, 111, 116, 59]⟩ true _ HPF2.out).mono ?_); rintro e w1 ⟨rfl, ⟨nd, rfl⟩⟩))
        go_quiet (fail)
        go_wp2
        go_ret2
        exact ⟨by rw [← HRR.out]; rfl, by ((repeat' (first | (with_reducible refine bl_set ?_ ?_ _) | (with_reducible refine bl_alloc ?_ _) | (with_reducible refine bl_drewN ?_ _))) <;> (first | (with_reducible exact HB.out) | exact hsz))⟩
      | false =>
        rw [if_neg (by show ¬ (pfxB s ⟨#[38, 113, 117, 111, 116, 59]⟩ = true); rw [hb]; decide)] at hrun
        have HRR := Aside0.mk hrun
        have HK := Aside0.mk hk
        clear hrun hpf hb HI hk
        go_wp2_with (first
          | (go_at_call 66; (with_reducible refine (strings_HasPrefix.calls s ⟨#[38, 113, 117, 111, 116, 59]⟩ false _ HPF2.out).mono ?_); rintro e w1 ⟨rfl, ⟨nd, rfl⟩⟩))
        go_roundg 1
        case measure => have := HK.out; omega
        case rel => exact ⟨4, by go_num, ⟨rfl, by omega, HRR.out⟩, ⟨by ((repeat' (first | (with_reducible refine bl_set ?_ ?_ _) | (with_reducible refine bl_alloc ?_ _) | (with_reducible refine bl_drewN ?_ _))) <;> (first | (with_reducible exact HB.out) | exact hsz))⟩⟩
    · rw [show 5 - 4 = 0 + 1 from rfl, nameI] at hrun
      have hix := idx4 wr
      have hpf := hp_f s ⟨#[38, 97, 112, 111, 115, 59]⟩
      obtain ⟨b, hb⟩ : ∃ b, pfxB s ⟨#[38, 97, 112, 111, 115, 59]⟩ = b := ⟨_, rfl⟩
      rw [hb] at hpf
      have HPF2 := Aside0.mk hpf
      cases b with
      | true =>
        rw [if_pos (show pfxB s (nameAt 4).1 = true from hb)] at hrun
        have HRR := Aside0.mk hrun
        clear hrun hpf hb HI hk
        go_wp2_with (first
          | (go_at_call 66; (with_reducible refine (strings_HasPrefix.calls s ⟨#[38, 97, 112, 111, 115, 59]⟩ true _ HPF2.out).mono ?_); rintro e w1 ⟨rfl, ⟨nd, rfl⟩⟩))
        go_quiet (fail)
        go_wp2
        go_ret2
        exact ⟨by rw [← HRR.out]; rfl, by ((repeat' (first | (with_reducible refine bl_set ?_ ?_ _) | (with_reducible refine bl_alloc ?_ _) | (with_reducible refine bl_drewN ?_ _))) <;> (first | (with_reducible exact HB.out) | exact hsz))⟩
      | false =>
        rw [if_neg (by show ¬ (pfxB s ⟨#[38, 97, 112, 111, 115, 59]⟩ = true); rw [hb]; decide)] at hrun
        have HRR := Aside0.mk hrun
        have HK := Aside0.mk hk
        clear hrun hpf hb HI hk
        go_wp2_with (first
          | (go_at_call 66; (with_reducible refine (strings_HasPrefix.calls s ⟨#[38, 97, 112, 111, 115, 59]⟩ false _ HPF2.out).mono ?_); rintro e w1 ⟨rfl, ⟨nd, rfl⟩⟩))
        go_roundg 0
        case measure => have := HK.out; omega
        case rel => exact ⟨5, by go_num, ⟨rfl, by omega, HRR.out⟩, ⟨by ((repeat' (first | (with_reducible refine bl_set ?_ ?_ _) | (with_reducible refine bl_alloc ?_ _) | (with_reducible refine bl_drewN ?_ _))) <;> (first | (with_reducible exact HB.out) | exact hsz))⟩⟩
    · have hr : R = (0, 0) := hrun.symm
      have HRR := Aside0.mk hr
      clear hr hrun HI
      go_wp2
      go_ret2
      exact ⟨by rw [HRR.out]; rfl, HB.out⟩
end Go.Proofs.YtgdfgahpjebcaaaGreatDoor
/-
  text.Unescape, walked.
-/
namespace Go.Proofs.YtgdfgahpjebcaaaGreatDoor
open Go.RowKit Go.Proofs.YtgdfgahpjebcaaaGreatDoorW.PrintWords Go.Proofs.YtgdfgahpjebcaaaGreatDoor.PT

theorem owns_below {B : Nat} {w w' : World} {e : TypeId} {size : Nat} {v : Value} {n : Nat} {xs : List Value} (h : w.ownsRow B e size v n xs) (hb : Below w.heap.size w w') : w'.ownsRow B e size v n xs := by
  refine ⟨h.1, ?_⟩
  rcases h.2 with h0 | ⟨g, cap, cur, hv, hB, hh, h3⟩
  · exact .inl h0
  · refine .inr ⟨g, cap, cur, hv, hB, ?_, h3⟩
    have hg : g < w.heap.size := by
      by_cases hg : g < w.heap.size
      · exact hg
      · rw [Array.getElem?_eq_none (by omega)] at hh; cases hh
    rw [hb.block g hg]; exact hh
theorem dec_zero (s : ByteArray) (i : Int) (h : (dec s i).2 = 0) : (dec s i).1 = 0 := by
  have hk : ∀ c n least, n ≠ 0 → (chk c n least).2 = 0 → (chk c n least).1 = 0 := by
    intro c n least hn h
    rcases chk_size c n least with h1 | h1 <;> rw [h1] at h ⊢
    exact absurd h hn
  unfold dec at h ⊢
  split at h
  · exact absurd h (show ¬ (1 : Int) = 0 by decide)
  · rename_i h1
    split at h
    · rename_i h2
      split at h
      · rename_i h3
        rw [if_neg h1, if_pos h2, if_pos h3]; exact hk _ _ _ (by decide) h
      · rename_i h3
        rw [if_neg h1, if_pos h2, if_neg h3]
    · rename_i h2
      split at h
      · rename_i h3
        split at h
        · rename_i h4
          rw [if_neg h1, if_neg h2, if_pos h3, if_pos h4]; exact hk _ _ _ (by decide) h
        · rename_i h4
          rw [if_neg h1, if_neg h2, if_pos h3, if_neg h4]
      · rename_i h3
        split at h
        · rename_i h4
          split at h
          · rename_i h5
            rw [if_neg h1, if_neg h2, if_neg h3, if_pos h4, if_pos h5]; exact hk _ _ _ (by decide) h
          · rename_i h5
            rw [if_neg h1, if_neg h2, if_neg h3, if_pos h4, if_neg h5]
        · rename_i h4
          rw [if_neg h1, if_neg h2, if_neg h3, if_neg h4]
theorem xml_char {r : Int} (h : xmlB r = true) : charB r = true := by
  unfold xmlB at h
  cases hc : charB r with
  | true => rfl
  | false => rw [hc] at h; simp at h
theorem nameI_range (s : ByteArray) : ∀ k j, (nameI s k j).2 = 0 ∨ (1 ≤ (nameI s k j).2 ∧ (nameI s k j).2 ≤ s.size ∧ charB (nameI s k j).1 = true) := by
  intro k
  induction k with
  | zero => intro j; exact .inl rfl
  | succ k ih =>
    intro j
    rw [nameI]
    split
    · rename_i h
      have hz := pfxB_size s _ h
      right
      have hn : ∀ j, 1 ≤ (nameAt j).1.size ∧ charB (nameAt j).2 = true := by
        intro j
        match j with
        | 0 => exact ⟨by decide, by decide⟩
        | 1 => exact ⟨by decide, by decide⟩
        | 2 => exact ⟨by decide, by decide⟩
        | 3 => exact ⟨by decide, by decide⟩
        | n + 4 => exact ⟨by simp only [nameAt]; decide, by simp only [nameAt]; decide⟩
      have := hn j
      exact ⟨by simp only []; omega, by simp only []; omega, this.2⟩
    · exact ih _
theorem refI_range (s : ByteArray) : (refI s).2 = 0 ∨ (1 ≤ (refI s).2 ∧ (refI s).2 ≤ s.size ∧ charB (refI s).1 = true) := by
  unfold refI
  split
  · rename_i h
    have hz := pfxB_size s _ h
    have h2 : (⟨#[38, 35]⟩ : ByteArray).size = 2 := rfl
    have hnr := numI_range (s.extract 2 s.size)
    have hez : (s.extract 2 s.size).size = s.size - 2 := by simp
    rw [hez] at hnr
    split
    · rename_i h3
      rcases hnr with h4 | ⟨h4, h5, h6⟩
      · omega
      · exact .inr ⟨by simp only []; omega, by simp only []; omega, xml_char h6⟩
    · exact .inl rfl
  · exact nameI_range _ _ _
theorem reference_any (s : ByteArray) (w : World) (hs : s.size ≤ 140737488355328) :
    Calls Tryz.prog 50 #[.string s] w fun e w' => e = .returned (.tuple #[.int .i64 (refI s).1, .int .i64 (refI s).2]) ∧ Below w.heap.size w w' := by
  cases hp : pfxB s ⟨#[38, 35]⟩ with
  | true => exact reference_num s w hs hp
  | false => exact reference_name s w hs hp

/-- Reading what XML wrote from byte i on: what it says; or where it goes wrong, and the number. -/
def urun (s : ByteArray) : Nat → Nat → List Int → List Int × Int × Int
  | 0, _, b => (b, 0, 0)
  | k + 1, i, b =>
    if i < s.size then
      if xmlB (dec s i).1 = false ∨ (dec s i).1 = 60 then ([], i, 13)
      else if (dec s i).1 = 38 then (if (refI (s.extract i s.size)).2 = 0 then ([], i, 11) else urun s k (i + (refI (s.extract i s.size)).2.toNat) (b ++ encI (refI (s.extract i s.size)).1))
      else urun s k (i + (dec s i).2.toNat) (b ++ encI (dec s i).1)
    else (b, 0, 0)
/-- What text.Unescape answers. -/
def uneI (s : ByteArray) : Option Nat → List Int × Int × Int
  | some a => ([], a, 10)
  | none => urun s s.size 0 []

set_option maxHeartbeats 4000000 in
set_option maxRecDepth 100000 in
theorem unescape_bad (s : ByteArray) (l : List Int) (a : Nat) (w : World) (hs : s.size ≤ 140737488355328) (h : Scan s 0 l (some a)) :
    Calls Tryz.prog 33 #[.string s] w (SPost (uneI s (some a)) w) := by
  have hb : text_Bad.f (s.size + 9) s = some (a : Int) := bad_f hs h
  have HBD := Aside0.mk hb
  clear hb
  have h0 : (0 : Int) ≤ (a : Int) := by omega
  go_enter Tryz.func33, Tryz.ntmps33
  go_wp2_with (first
    | (go_at_call 20; (with_reducible refine (text_Bad.calls (s.size + 9) s (a : Int) _ HBD.out).mono ?_); rintro e w1 ⟨rfl, ⟨nd, rfl⟩⟩)
    | (go_at_call 21; refine (wrong_any (a : Int) 10 _).mono ?_; rintro e w1 ⟨rfl, rfl⟩))
  go_ret2
  exact .inr ⟨by show (10 : Int) ≠ 0; decide, _, rfl, isRef_new _ _ (w.drewN nd), Nat.le_refl _, bl_alloc (bl_drewN (Below.refl _ _) _) _⟩

set_option maxHeartbeats 4000000 in
set_option maxRecDepth 100000 in
theorem unescape_ok (s : ByteArray) (l : List Int) (w : World) (hs : s.size ≤ 17592186000000) (h : Scan s 0 l none) :
    Calls Tryz.prog 33 #[.string s] w (SPost (uneI s none) w) := by
  have hb : text_Bad.f (s.size + 9) s = some (-1) := bad_f (by omega) h
  have HBD := Aside0.mk hb
  clear hb
  obtain ⟨R, hR⟩ : ∃ R, uneI s none = R := ⟨_, rfl⟩
  rw [hR]
  unfold uneI at hR
  have HR := Aside0.mk hR
  clear hR
  go_enter Tryz.func33, Tryz.ntmps33
  go_wp2_with (first
    | (go_at_call 20; (with_reducible refine (text_Bad.calls (s.size + 9) s (-1) _ HBD.out).mono ?_); rintro e w1 ⟨rfl, ⟨nd, rfl⟩⟩))
  go_loopg [5, 6] s.size (fun kq v5 v6 w' => ∃ (i : Nat) (b : List Int) (k : Nat), v6 = .int .i64 i ∧ Aside0 (kq = s.size - i ∧ b.length ≤ 4 * i ∧ i ≤ s.size ∧ urun s k i b = R ∧ s.size - i ≤ k) ∧ Aside0 (w'.ownsRow w.heap.size 5 1 v5 b.length (nums .u8 b)) ∧ Aside0 (Below w.heap.size w w'))
  case atStart => exact ⟨0, [], s.size, rfl, ⟨rfl, by simp, by omega, HR.out, by omega⟩, ⟨own_nil _ w.heap.size 5 1⟩, ⟨bl_drewN (Below.refl _ _) _⟩⟩
  case round =>
    obtain ⟨i, b, k, rfl, HI, HO, HB⟩ := hrel
    obtain ⟨hk, hbl, hile, hrun, hkk⟩ := HI.out
    have hsz := HB.out.size
    by_cases hlt : i < s.size
    · have hi : i < s.size := hlt
      obtain ⟨k', rfl⟩ : ∃ k', k = k' + 1 := ⟨k - 1, by omega⟩
      rw [urun, if_pos hi] at hrun
      have q1 : ((i : Int) < (s.size : Int)) = True := eq_true (by omega)
      have q2 : (i : Int) ≤ (s.size : Int) := by omega
      have q3 : (0 : Int) ≤ (i : Int) := by omega
      have hf := first_at 0 s i hi
      have hdc := dec_cases s i hi
      obtain ⟨c, n, hd⟩ : ∃ c n, dec s i = (c, n) := ⟨_, _, rfl⟩
      rw [hd] at hf hrun hdc
      simp only at hrun hdc
      have HF := Aside0.mk hf
      have hxf := xml_f c
      have HK := Aside0.mk hk
      by_cases k1 : xmlB c = false ∨ c = 60
      · rw [if_pos k1] at hrun
        have HRR := Aside0.mk hrun
        have hc1 : (xmlB c = false) ∨ (xmlB c = true ∧ c = 60) := by
          cases hx : xmlB c with
          | false => exact .inl rfl
          | true => rw [hx] at k1; exact .inr ⟨rfl, k1.resolve_left (by decide)⟩
        rcases hc1 with hx | ⟨hx, h60⟩
        · rw [hx] at hxf
          have HXF := Aside0.mk hxf
          clear hrun hlt k1 hf hd hdc hxf hx hk HI
          go_wp2_with (first
            | (go_at_call 37; (with_reducible refine (text_First.calls 8 (s.extract i s.size) c n _ HF.out).mono ?_); rintro e w1 ⟨rfl, ⟨nd2, rfl⟩⟩)
            | (go_at_call 49; (with_reducible refine (text_XML.calls c false _ HXF.out).mono ?_); rintro e w1 ⟨rfl, ⟨nd3, rfl⟩⟩)
            | (go_at_call 21; refine (wrong_any (i : Int) 13 _).mono ?_; rintro e w1 ⟨rfl, rfl⟩))
          go_ret2
          rw [← HRR.out]
          exact .inr ⟨by show (13 : Int) ≠ 0; decide, wr.heap.size, rfl, isRef_new _ _ (wr.drewN _), hsz, bl_alloc (bl_drewN HB.out _) _⟩
        · rw [hx] at hxf
          have HXF := Aside0.mk hxf
          have c1 : (c == 60) = true := by simpa using h60
          have c2 : (c = 60) = True := eq_true h60
          clear hrun hlt k1 hf hd hdc hxf hx hk HI h60
          go_wp2_with (first
            | (go_at_call 37; (with_reducible refine (text_First.calls 8 (s.extract i s.size) c n _ HF.out).mono ?_); rintro e w1 ⟨rfl, ⟨nd2, rfl⟩⟩)
            | (go_at_call 49; (with_reducible refine (text_XML.calls c true _ HXF.out).mono ?_); rintro e w1 ⟨rfl, ⟨nd3, rfl⟩⟩)
            | (go_at_call 21; refine (wrong_any (i : Int) 13 _).mono ?_; rintro e w1 ⟨rfl, rfl⟩))
          go_ret2
          rw [← HRR.out]
          exact .inr ⟨by show (13 : Int) ≠ 0; decide, wr.heap.size, rfl, isRef_new _ _ (wr.drewN _), hsz, bl_alloc (bl_drewN HB.out _) _⟩
      · rw [if_neg k1] at hrun
        have hx : xmlB c = true := by
          cases hx : xmlB c with
          | true => rfl
          | false => exact absurd (Or.inl hx) k1
        have h60 : ¬ c = 60 := fun h => k1 (Or.inr h)
        have c1 : (c == 60) = false := by simpa using h60
        have c2 : (c = 60) = False := eq_false h60
        rw [hx] at hxf
        have HXF := Aside0.mk hxf
        by_cases k2 : c = 38
        · rw [if_pos k2] at hrun
          have c3 : (c == 38) = true := by simpa using k2
          have hrr := refI_range (s.extract i s.size)
          have hz : (s.extract i s.size).size = s.size - i := by simp
          have HRF := Aside0.mk (fun w => reference_any (s.extract i s.size) w (by rw [hz]; exact Nat.le_trans (Nat.sub_le _ _) (Nat.le_trans hs (by decide))))
          obtain ⟨r, m, hrm⟩ : ∃ r m, refI (s.extract i s.size) = (r, m) := ⟨_, _, rfl⟩
          rw [hz, hrm] at hrr
          rw [hrm] at hrun HRF
          simp only at hrun hrr HRF
          by_cases k3 : m = 0
          · rw [if_pos k3] at hrun
            have HRR := Aside0.mk hrun
            have c4 : (m == 0) = true := by simpa using k3
            clear hrun hlt k1 hf hd hdc hxf hx hk HI h60 k2 hrr hz hrm k3
            go_wp2_with (first
              | (go_at_call 37; (with_reducible refine (text_First.calls 8 (s.extract i s.size) c n _ HF.out).mono ?_); rintro e w1 ⟨rfl, ⟨nd2, rfl⟩⟩)
              | (go_at_call 49; (with_reducible refine (text_XML.calls c true _ HXF.out).mono ?_); rintro e w1 ⟨rfl, ⟨nd3, rfl⟩⟩)
              | (go_at_call 50; (with_reducible refine (HRF.out _).mono ?_); rintro e w1 ⟨rfl, hb1⟩)
              | (go_at_call 21; refine (wrong_any (i : Int) 11 _).mono ?_; rintro e w2 ⟨rfl, rfl⟩))
            go_ret2
            rw [← HRR.out]
            exact .inr ⟨by show (11 : Int) ≠ 0; decide, _, rfl, isRef_new _ _ w1, Nat.le_trans hsz hb1.size, bl_alloc ((bl_drewN HB.out _).trans (hb1.mono hsz)) _⟩
          · rw [if_neg k3] at hrun
            have HRR := Aside0.mk hrun
            have c4 : (m == 0) = false := by simpa using k3
            obtain ⟨hm1, hm2, hch⟩ := hrr.resolve_left k3
            obtain ⟨hi0, hi1, _⟩ := (charB_spec _).1 hch
            have hel := encI_length r
            clear hrun hlt k1 hf hd hdc hxf hx hk HI h60 k2 hz hrm k3 hch hrr
            go_wp2_with (first
              | (go_at_call 37; (with_reducible refine (text_First.calls 8 (s.extract i s.size) c n _ HF.out).mono ?_); rintro e w1 ⟨rfl, ⟨nd2, rfl⟩⟩)
              | (go_at_call 49; (with_reducible refine (text_XML.calls c true _ HXF.out).mono ?_); rintro e w1 ⟨rfl, ⟨nd3, rfl⟩⟩)
              | (go_at_call 50; (with_reducible refine (HRF.out _).mono ?_); rintro e w1 ⟨rfl, hb1⟩)
              | (go_at_call 39; refine (put_any w.heap.size _ b r _ (by exact owns_below (w := wr.drewN _) (by exact HO.out) hb1) (by have := hb1.size; exact Nat.le_trans hsz this) (by omega) hi0 hi1).mono ?_; rintro e w2 ⟨v', rfl, ho2, hb2⟩))
            go_roundg (s.size - (i + m.toNat))
            case measure => have := HK.out; omega
            case rel => exact ⟨i + m.toNat, b ++ encI r, k', by go_num, ⟨rfl, by simp only [List.length_append]; omega, by omega, HRR.out, by omega⟩, ⟨ho2⟩, ⟨((bl_drewN HB.out _).trans (hb1.mono hsz)).trans hb2⟩⟩
        · rw [if_neg k2] at hrun
          have c3 : (c == 38) = false := by simpa using k2
          have HRR := Aside0.mk hrun
          obtain ⟨hi0, hi1, _⟩ := (charB_spec _).1 (xml_char hx)
          have hnn : n = (encI c).length ∧ i + (encI c).length ≤ s.size := by
            rcases hdc with h0 | ⟨c', hcc, _, _, h4⟩
            · exfalso
              have hz0 := dec_zero s i (by rw [hd]; exact h0)
              rw [hd] at hz0
              simp only at hz0
              subst hz0
              exact absurd hx (by decide)
            · injection hcc with e1 e2
              subst e1
              exact ⟨e2, h4⟩
          have hel := encI_length c
          clear hrun hlt k1 hf hd hdc hxf hx hk HI h60 k2
          go_wp2_with (first
            | (go_at_call 37; (with_reducible refine (text_First.calls 8 (s.extract i s.size) c n _ HF.out).mono ?_); rintro e w1 ⟨rfl, ⟨nd2, rfl⟩⟩)
            | (go_at_call 49; (with_reducible refine (text_XML.calls c true _ HXF.out).mono ?_); rintro e w1 ⟨rfl, ⟨nd3, rfl⟩⟩)
            | (go_at_call 39; refine (put_any w.heap.size _ b c _ (by exact HO.out) (by exact hsz) (by omega) hi0 hi1).mono ?_; rintro e w2 ⟨v', rfl, ho2, hb2⟩))
          go_roundg (s.size - (i + n.toNat))
          case measure => have := HK.out; omega
          case rel => exact ⟨i + n.toNat, b ++ encI c, k', by go_num, ⟨rfl, by simp only [List.length_append]; omega, by omega, HRR.out, by omega⟩, ⟨ho2⟩, ⟨(bl_drewN HB.out _).trans hb2⟩⟩
    · have hi : i = s.size := by omega
      subst hi
      have hr : R = (b, 0, 0) := by
        rw [← hrun]
        cases k with
        | zero => rfl
        | succ k => rw [urun, if_neg (by omega)]
      have HRR := Aside0.mk hr
      have q1 : ((s.size : Int) < (s.size : Int)) = False := eq_false (by omega)
      have hO := HO.out
      have hstr := own_string (src := 41) (dst := 9) (e := 5) Tryz.underlying41 Tryz.underlying5 Tryz.underlying9 hO
      clear hr hrun hlt HI hO
      go_wp2
      go_ret2
      rw [HRR.out]
      exact .inl ⟨rfl, rfl, HB.out⟩
end Go.Proofs.YtgdfgahpjebcaaaGreatDoor
/-
  The laws' own helpers: fails, unquoted, unescaped, same.
-/
namespace Go.Proofs.YtgdfgahpjebcaaaGreatDoor
open Go.RowKit Go.Proofs.YtgdfgahpjebcaaaGreatDoorW.PrintWords Go.Proofs.YtgdfgahpjebcaaaGreatDoor.PT

set_option maxHeartbeats 2000000 in
set_option maxRecDepth 100000 in
theorem fails_hit (s : ByteArray) (l : List Int) (a : Nat) (w : World) (hs : s.size ≤ 140737488355328) (h : Scan s 0 l (some a)) (ha : a ≤ 140737488355328) (he : Env w) :
    Calls Tryz.prog 27 #[.string s, .int .i64 a] w fun e w' => e = .returned (.bool true) ∧ Below w.heap.size w w' := by
  have HS := Aside0.mk h
  clear h
  go_enter Tryz.func27, Tryz.ntmps27
  go_wp2_with (first
    | (go_at_call 25; (with_reducible refine (runes_bad s a l _ hs HS.out).mono ?_); rintro e w1 ⟨g, rfl, hrf, hg, hb1⟩)
    | (go_at_call 24; (with_reducible refine (refused_hit g (a : Int) 10 _ hrf (he.below hb1 he.size) ?_ ?_).mono ?_); (focus omega); (focus omega); rintro e w2 ⟨rfl, hb2⟩))
  go_ret
  exact ⟨rfl, hb1.trans (hb2.mono hb1.size)⟩

set_option maxHeartbeats 2000000 in
set_option maxRecDepth 100000 in
theorem unquoted_hit (s : ByteArray) (at_ why : Int) (w : World) (hq : ∀ w, Calls Tryz.prog 8 #[.string s] w (SPost ([], at_, why) w)) (ha : -9223372036854775808 ≤ at_ ∧ at_ ≤ 9223372036854775807) (hy : 0 < why ∧ why < 100) (he : Env w) :
    Calls Tryz.prog 31 #[.string s, .int .i64 at_, .int .i64 why] w fun e w' => e = .returned (.bool true) ∧ Below w.heap.size w w' := by
  have HQ := Aside0.mk hq
  have hw : why ≠ 0 := by omega
  clear hq
  go_enter Tryz.func31, Tryz.ntmps31
  go_wp2_with (first
    | (go_at_call 8; (with_reducible refine (HQ.out _).mono ?_); rintro e w1 hpost; obtain ⟨_, g, rfl, hrf, hg, hb1⟩ := Or.resolve_left hpost (fun h => hw h.1))
    | (go_at_call 24; (with_reducible refine (refused_hit g at_ why _ hrf (he.below hb1 he.size) ha ?_).mono ?_); (focus omega); rintro e w2 ⟨rfl, hb2⟩))
  go_ret
  exact ⟨rfl, hb1.trans (hb2.mono hb1.size)⟩

set_option maxHeartbeats 2000000 in
set_option maxRecDepth 100000 in
theorem unescaped_hit (s : ByteArray) (at_ why : Int) (w : World) (hq : ∀ w, Calls Tryz.prog 33 #[.string s] w (SPost ([], at_, why) w)) (ha : -9223372036854775808 ≤ at_ ∧ at_ ≤ 9223372036854775807) (hy : 0 < why ∧ why < 100) (he : Env w) :
    Calls Tryz.prog 34 #[.string s, .int .i64 at_, .int .i64 why] w fun e w' => e = .returned (.bool true) ∧ Below w.heap.size w w' := by
  have HQ := Aside0.mk hq
  have hw : why ≠ 0 := by omega
  clear hq
  go_enter Tryz.func34, Tryz.ntmps34
  go_wp2_with (first
    | (go_at_call 33; (with_reducible refine (HQ.out _).mono ?_); rintro e w1 hpost; obtain ⟨_, g, rfl, hrf, hg, hb1⟩ := Or.resolve_left hpost (fun h => hw h.1))
    | (go_at_call 24; (with_reducible refine (refused_hit g at_ why _ hrf (he.below hb1 he.size) ha ?_).mono ?_); (focus omega); rintro e w2 ⟨rfl, hb2⟩))
  go_ret
  exact ⟨rfl, hb1.trans (hb2.mono hb1.size)⟩
end Go.Proofs.YtgdfgahpjebcaaaGreatDoor
/-
  Rows of ints as arguments; scans of closed texts.
-/
namespace Go.Proofs.YtgdfgahpjebcaaaGreatDoor
open Go.RowKit Go.Proofs.YtgdfgahpjebcaaaGreatDoorW.PrintWords Go.Proofs.YtgdfgahpjebcaaaGreatDoor.PT

theorem int_C {w : World} {g : Nat} {l : List Int} {cur : Array Value} (hh : w.heap[g]? = some (.cells cur 3 (0, 0))) (hm : l.length ≤ 9223372036854775807) (ht : cur.toList.take l.length = nums .i64 l) : Kd.C (Kd.int .i64) w (some ⟨g, 0, none⟩) l.length l := by
  refine Kd.C_of_reads (enc := Value.int .i64) (d := (0 : Int)) (h1 := fun _ => rfl) ⟨rfl, hm, fun _ => ⟨_, rfl, fun j hj => ?_⟩⟩
  have e : (⟨g, 0, none⟩ : Addr).add j = ⟨g, j, none⟩ := by simp [Addr.add]; exact fun h => h.symm
  rw [e, Lib.cell_of_heap hh j]
  have h1 := congrArg (fun x => x[j]?) ht
  simp only [List.getElem?_take, if_pos hj] at h1
  have h2 : (nums .i64 l)[j]? = some (.int .i64 (l.getD j 0)) := by
    simp [nums, List.getElem?_map, List.getElem?_eq_getElem hj, List.getD_eq_getElem?_getD]
  rw [h2] at h1
  simpa using h1
theorem cut_C {w : World} {B : Nat} {v : Value} {l : List Int} (h : CutRow w B v l) (hm : l.length ≤ 9223372036854775807) : ∃ A, v = .slice A l.length l.length ∧ Kd.C (Kd.int .i64) w A l.length l := by
  rcases h with ⟨rfl, rfl⟩ | ⟨g, cur, rfl, hB, hh, hc, ht⟩
  · exact ⟨none, rfl, Kd.C_nil _ _⟩
  · exact ⟨_, rfl, int_C hh hm ht⟩
theorem one_C (w : World) (x : Int) : Kd.C (Kd.int .i64) (w.alloc (.cells #[.int .i64 x] 3)) (some ⟨w.heap.size, 0, none⟩) [x].length [x] := int_C (heap_alloc_new w _) (by simp) rfl

/-- A scan, reckoned. -/
def scanF (s : ByteArray) : Nat → Nat → List Int × Option Nat
  | 0, _ => ([], none)
  | k + 1, i => if i < s.size then (if (dec s i).2 = 0 then ([], some i) else ((dec s i).1 :: (scanF s k (i + (dec s i).2.toNat)).1, (scanF s k (i + (dec s i).2.toNat)).2)) else ([], none)
theorem scanF_ok (s : ByteArray) : ∀ k i, i ≤ s.size → s.size - i ≤ k → Scan s i (scanF s k i).1 (scanF s k i).2 := by
  intro k
  induction k with
  | zero =>
    intro i h1 h2
    have : i = s.size := by omega
    subst this
    exact .done
  | succ k ih =>
    intro i h1 h2
    rw [scanF]
    split
    · rename_i hi
      rcases dec_cases s i hi with h0 | ⟨c, hd, hc, _, hl⟩
      · rw [if_pos h0]; exact .bad hi h0
      · have hen := encI_length c
        rw [if_neg (by rw [hd]; show ¬ (((encI c).length : Nat) : Int) = 0; omega), hd]
        have e : ((((encI c).length : Nat) : Int)).toNat = (encI c).length := by omega
        simp only [e]
        exact .step hi hd (ih _ hl (by omega))
    · have : i = s.size := by omega
      subst this
      exact .done
theorem scan_of {s : ByteArray} {l : List Int} {e : Option Nat} (h : scanF s s.size 0 = (l, e)) : Scan s 0 l e := by
  have := scanF_ok s s.size 0 (Nat.zero_le _) (by omega)
  rw [h] at this; exact this
end Go.Proofs.YtgdfgahpjebcaaaGreatDoor
/-
  TextRuns: the closed runs. PRINTED by gen_runs.py.
-/
namespace Go.Proofs.YtgdfgahpjebcaaaGreatDoor
open Go.RowKit Go.Proofs.YtgdfgahpjebcaaaGreatDoorW.PrintWords Go.Proofs.YtgdfgahpjebcaaaGreatDoor.PT

theorem lt_of_heap {w : World} {k : Nat} {o : Obj} (h : w.heap[k]? = some o) : k < w.heap.size := by
  by_cases hk : k < w.heap.size
  · exact hk
  · rw [Array.getElem?_eq_none (by omega)] at h; cases h
theorem cell_at0 {w : World} {g : Nat} {a b : Value} {t : TypeId} (h : w.heap[g]? = some (.cells #[a, b] t (0, 0))) : w.cell? ⟨g, 0, none⟩ = some a := (Lib.cell_of_heap h 0).trans rfl
theorem cell_at1 {w : World} {g : Nat} {a b : Value} {t : TypeId} (h : w.heap[g]? = some (.cells #[a, b] t (0, 0))) : w.cell? ⟨g, 1, none⟩ = some b := (Lib.cell_of_heap h 1).trans rfl
theorem below_heap {W W1 : World} {k : Nat} {o : Obj} (h1 : Below W.heap.size W W1) (h : W.heap[k]? = some o) : W1.heap[k]? = some o := (h1.block k (lt_of_heap h)).trans h
theorem below_heap2 {w0 W W1 : World} {k : Nat} {o : Obj} (h1 : Below W.heap.size W W1) (h0 : Below w0.heap.size w0 W) (h : w0.heap[k]? = some o) : W1.heap[k]? = some o := below_heap h1 (below_heap h0 h)
theorem run_sc : Scan ⟨#[195, 169]⟩ 0 [233] none := scan_of (by decide +kernel)
theorem run_f0 : Scan ⟨#[192, 128]⟩ 0 [] (some 0) := scan_of (by decide +kernel)
theorem run_f1 : Scan ⟨#[237, 160, 128]⟩ 0 [] (some 0) := scan_of (by decide +kernel)
theorem run_f2 : Scan ⟨#[244, 144, 128, 128]⟩ 0 [] (some 0) := scan_of (by decide +kernel)
theorem run_f3 : Scan ⟨#[97, 128]⟩ 0 [97] (some 1) := scan_of (by decide +kernel)
theorem run_f0_c (w : World) (he : Env w) : Calls Tryz.prog 27 #[.string ⟨#[192, 128]⟩, .int .i64 0] w fun e w' => e = .returned (.bool true) ∧ Below w.heap.size w w' := fails_hit ⟨#[192, 128]⟩ [] 0 w (by decide) run_f0 (by decide) he
theorem run_f1_c (w : World) (he : Env w) : Calls Tryz.prog 27 #[.string ⟨#[237, 160, 128]⟩, .int .i64 0] w fun e w' => e = .returned (.bool true) ∧ Below w.heap.size w w' := fails_hit ⟨#[237, 160, 128]⟩ [] 0 w (by decide) run_f1 (by decide) he
theorem run_f2_c (w : World) (he : Env w) : Calls Tryz.prog 27 #[.string ⟨#[244, 144, 128, 128]⟩, .int .i64 0] w fun e w' => e = .returned (.bool true) ∧ Below w.heap.size w w' := fails_hit ⟨#[244, 144, 128, 128]⟩ [] 0 w (by decide) run_f2 (by decide) he
theorem run_f3_c (w : World) (he : Env w) : Calls Tryz.prog 27 #[.string ⟨#[97, 128]⟩, .int .i64 1] w fun e w' => e = .returned (.bool true) ∧ Below w.heap.size w w' := fails_hit ⟨#[97, 128]⟩ [97] 1 w (by decide) run_f3 (by decide) he
theorem run_b0 : bytesS [8364] = (⟨#[226, 130, 172]⟩, 0) := by decide +kernel
theorem run_b1 : bytesS [55296] = (⟨#[]⟩, 5) := by decide +kernel
theorem run_b2 : bytesS [] = (⟨#[]⟩, 0) := by decide +kernel
theorem run_same : emendbook_Same_int.f 10 [233] [233] = some true := by decide +kernel
theorem run_s4 : text_SpotOf.f 60 ⟨#[97, 10, 195, 169, 98]⟩ 4 = some (2, 2, 0) := by decide +kernel
theorem run_s3 : text_SpotOf.f 60 ⟨#[97, 10, 195, 169, 98]⟩ 3 = some (0, 0, 10) := by decide +kernel
theorem run_s5 : text_SpotOf.f 60 ⟨#[97, 10, 195, 169, 98]⟩ 5 = some (2, 3, 0) := by decide +kernel
theorem run_u : Scan ⟨#[97, 10, 195, 169, 98]⟩ 0 [97, 10, 233, 98] none := scan_of (by decide +kernel)
theorem run_at : atL 2 2 [97, 10, 233, 98] 0 1 1 = (4, 0) := by decide +kernel
theorem run_q : Scan ⟨#[97, 34, 10, 1, 127]⟩ 0 [97, 34, 10, 1, 127] none := scan_of (by decide +kernel)
theorem run_qr : strOfNums (quoteI (bytesOf ⟨#[97, 34, 10, 1, 127]⟩)) = ⟨#[34, 97, 92, 34, 92, 110, 92, 117, 48, 48, 48, 49, 92, 117, 48, 48, 55, 102, 34]⟩ := by decide +kernel
theorem run_uq (w : World) : Calls Tryz.prog 8 #[.string ⟨#[34, 92, 117, 100, 56, 51, 100, 92, 117, 100, 101, 48, 48, 34]⟩] w (SPost ([240, 159, 152, 128], 0, 0) w) := by
  have h := unquote_ok ⟨#[34, 92, 117, 100, 56, 51, 100, 92, 117, 100, 101, 48, 48, 34]⟩ [34, 92, 117, 100, 56, 51, 100, 92, 117, 100, 101, 48, 48, 34] w (by decide) (scan_of (by decide +kernel))
  rw [show unqI ⟨#[34, 92, 117, 100, 56, 51, 100, 92, 117, 100, 101, 48, 48, 34]⟩ none = ([240, 159, 152, 128], 0, 0) by decide +kernel] at h
  exact h
theorem run_uq0 (w : World) : Calls Tryz.prog 8 #[.string ⟨#[34, 92, 117, 100, 56, 51, 100, 34]⟩] w (SPost ([], 1, 11) w) := by
  have h := unquote_ok ⟨#[34, 92, 117, 100, 56, 51, 100, 34]⟩ [34, 92, 117, 100, 56, 51, 100, 34] w (by decide) (scan_of (by decide +kernel))
  rw [show unqI ⟨#[34, 92, 117, 100, 56, 51, 100, 34]⟩ none = ([], 1, 11) by decide +kernel] at h
  exact h
theorem run_uq1 (w : World) : Calls Tryz.prog 8 #[.string ⟨#[34, 92, 120, 34]⟩] w (SPost ([], 1, 11) w) := by
  have h := unquote_ok ⟨#[34, 92, 120, 34]⟩ [34, 92, 120, 34] w (by decide) (scan_of (by decide +kernel))
  rw [show unqI ⟨#[34, 92, 120, 34]⟩ none = ([], 1, 11) by decide +kernel] at h
  exact h
theorem run_uq2 (w : World) : Calls Tryz.prog 8 #[.string ⟨#[34, 97]⟩] w (SPost ([], 2, 14) w) := by
  have h := unquote_ok ⟨#[34, 97]⟩ [34, 97] w (by decide) (scan_of (by decide +kernel))
  rw [show unqI ⟨#[34, 97]⟩ none = ([], 2, 14) by decide +kernel] at h
  exact h
theorem run_uq3 (w : World) : Calls Tryz.prog 8 #[.string ⟨#[34, 97, 34, 98]⟩] w (SPost ([], 3, 13) w) := by
  have h := unquote_ok ⟨#[34, 97, 34, 98]⟩ [34, 97, 34, 98] w (by decide) (scan_of (by decide +kernel))
  rw [show unqI ⟨#[34, 97, 34, 98]⟩ none = ([], 3, 13) by decide +kernel] at h
  exact h
theorem run_uq4 (w : World) : Calls Tryz.prog 8 #[.string ⟨#[97]⟩] w (SPost ([], 0, 13) w) := by
  have h := unquote_ok ⟨#[97]⟩ [97] w (by decide) (scan_of (by decide +kernel))
  rw [show unqI ⟨#[97]⟩ none = ([], 0, 13) by decide +kernel] at h
  exact h
theorem run_ue (w : World) : Calls Tryz.prog 33 #[.string ⟨#[38, 35, 120, 52, 49, 59, 38, 35, 54, 54, 59, 38, 97, 112, 111, 115, 59]⟩] w (SPost ([65, 66, 39], 0, 0) w) := by
  have h := unescape_ok ⟨#[38, 35, 120, 52, 49, 59, 38, 35, 54, 54, 59, 38, 97, 112, 111, 115, 59]⟩ [38, 35, 120, 52, 49, 59, 38, 35, 54, 54, 59, 38, 97, 112, 111, 115, 59] w (by decide) (scan_of (by decide +kernel))
  rw [show uneI ⟨#[38, 35, 120, 52, 49, 59, 38, 35, 54, 54, 59, 38, 97, 112, 111, 115, 59]⟩ none = ([65, 66, 39], 0, 0) by decide +kernel] at h
  exact h
theorem run_ue0 (w : World) : Calls Tryz.prog 33 #[.string ⟨#[97, 38, 98]⟩] w (SPost ([], 1, 11) w) := by
  have h := unescape_ok ⟨#[97, 38, 98]⟩ [97, 38, 98] w (by decide) (scan_of (by decide +kernel))
  rw [show uneI ⟨#[97, 38, 98]⟩ none = ([], 1, 11) by decide +kernel] at h
  exact h
theorem run_ue1 (w : World) : Calls Tryz.prog 33 #[.string ⟨#[38, 35, 48, 59]⟩] w (SPost ([], 0, 11) w) := by
  have h := unescape_ok ⟨#[38, 35, 48, 59]⟩ [38, 35, 48, 59] w (by decide) (scan_of (by decide +kernel))
  rw [show uneI ⟨#[38, 35, 48, 59]⟩ none = ([], 0, 11) by decide +kernel] at h
  exact h
theorem run_ue2 (w : World) : Calls Tryz.prog 33 #[.string ⟨#[97, 60]⟩] w (SPost ([], 1, 13) w) := by
  have h := unescape_ok ⟨#[97, 60]⟩ [97, 60] w (by decide) (scan_of (by decide +kernel))
  rw [show uneI ⟨#[97, 60]⟩ none = ([], 1, 13) by decide +kernel] at h
  exact h
theorem run_es1 (w : World) : Calls Tryz.prog 32 #[.string ⟨#[97, 60, 34, 38]⟩, .bool true] w fun e w' => e = .returned (.tuple #[.string ⟨#[97, 38, 108, 116, 59, 38, 113, 117, 111, 116, 59, 38, 97, 109, 112, 59]⟩, .int .i64 0]) ∧ Below w.heap.size w w' := by
  have h := escape_any true ⟨#[97, 60, 34, 38]⟩ [97, 60, 34, 38] none w (by decide) (scan_of (by decide +kernel))
  rw [show escS true ⟨#[97, 60, 34, 38]⟩ [97, 60, 34, 38] none = ([97, 38, 108, 116, 59, 38, 113, 117, 111, 116, 59, 38, 97, 109, 112, 59], 0) by decide +kernel] at h
  exact h
theorem run_es0 (w : World) : Calls Tryz.prog 32 #[.string ⟨#[97, 60, 34, 38]⟩, .bool false] w fun e w' => e = .returned (.tuple #[.string ⟨#[97, 38, 108, 116, 59, 34, 38, 97, 109, 112, 59]⟩, .int .i64 0]) ∧ Below w.heap.size w w' := by
  have h := escape_any false ⟨#[97, 60, 34, 38]⟩ [97, 60, 34, 38] none w (by decide) (scan_of (by decide +kernel))
  rw [show escS false ⟨#[97, 60, 34, 38]⟩ [97, 60, 34, 38] none = ([97, 38, 108, 116, 59, 34, 38, 97, 109, 112, 59], 0) by decide +kernel] at h
  exact h
theorem run_esx (w : World) : Calls Tryz.prog 32 #[.string ⟨#[1]⟩, .bool true] w fun e w' => e = .returned (.tuple #[.string ⟨#[]⟩, .int .i64 13]) ∧ Below w.heap.size w w' := by
  have h := escape_any true ⟨#[1]⟩ [1] none w (by decide) (scan_of (by decide +kernel))
  rw [show escS true ⟨#[1]⟩ [1] none = ([], 13) by decide +kernel] at h
  exact h
theorem run_us : strOfNums [240, 159, 152, 128] = ⟨#[240, 159, 152, 128]⟩ := by decide +kernel
theorem run_xs : strOfNums [65, 66, 39] = ⟨#[65, 66, 39]⟩ := by decide +kernel

theorem run_same_c (A A1 : Option Addr) (w : World) (h0 : Kd.C (Kd.int .i64) w A 1 [233]) (h1 : Kd.C (Kd.int .i64) w A1 1 [233]) : Calls Tryz.prog 26 #[.slice A 1 1, .slice A1 1 1] w fun e w' => e = .returned (.bool true) ∧ Drawn0 w w' := emendbook_Same_int.calls 10 A 1 [233] A1 1 [233] true w h0 (by decide) h1 (by decide) run_same
theorem run_b0_c (A : Option Addr) (w : World) (h0 : Kd.C (Kd.int .i64) w A 1 [8364]) : Calls Tryz.prog 28 #[.slice A 1 1] w fun e w' => e = .returned (.tuple #[.string ⟨#[226, 130, 172]⟩, .int .i64 0]) ∧ Below w.heap.size w w' := by
  have h := bytes_any A 1 [8364] w h0 (by decide) (by decide)
  rw [run_b0] at h; exact h
theorem run_b1_c (A : Option Addr) (w : World) (h0 : Kd.C (Kd.int .i64) w A 1 [55296]) : Calls Tryz.prog 28 #[.slice A 1 1] w fun e w' => e = .returned (.tuple #[.string ⟨#[]⟩, .int .i64 5]) ∧ Below w.heap.size w w' := by
  have h := bytes_any A 1 [55296] w h0 (by decide) (by decide)
  rw [run_b1] at h; exact h
theorem run_b2_c (w : World) : Calls Tryz.prog 28 #[.slice none 0 0] w fun e w' => e = .returned (.tuple #[.string ⟨#[]⟩, .int .i64 0]) ∧ Below w.heap.size w w' := by
  have h := bytes_any none 0 [] w (Kd.C_nil _ _) (by decide) (by decide)
  rw [run_b2] at h; exact h

set_option maxHeartbeats 8000000 in
set_option maxRecDepth 100000 in
theorem runs_true (w : World) (he : Env w) :
    Calls Tryz.prog 11 #[] w fun e w' => e = .returned (.bool true) ∧ Below w.heap.size w w' := by
  have z0 : ([] : List Int).length = 0 := rfl
  go_enter Tryz.func11, Tryz.ntmps11
  go_wp2_with (first
    | (go_at_call 25; (with_reducible refine (runes_ok ⟨#[195, 169]⟩ [233] _ (by decide) run_sc).mono ?_); rintro e w1 ⟨v, rfl, hcut, hc1⟩; obtain ⟨A, rfl, hrow⟩ := (cut_C hcut (by decide) : ∃ A, v = .slice A 1 1 ∧ Kd.C (Kd.int .i64) _ A 1 [233]); have hb1 : Below w.heap.size w w1 := bl_trans (by ((repeat' (first | (with_reducible refine bl_set ?_ ?_ _) | (with_reducible refine bl_alloc ?_ _) | (with_reducible refine bl_drewN ?_ _))) <;> (first | (with_reducible exact (Below.refl _ _)) | (show _ ≤ World.heap.size _; exact (Below.size (Below.refl _ _))) | (exact Nat.le_trans (Below.size (Below.refl _ _)) (Nat.le_refl _)) | (have hs := (Below.size (Below.refl _ _)); simp; omega)))) hc1; clear hc1)
    | (go_at_call 26; (with_reducible refine (run_same_c A _ _ ?_ ?_).mono ?_); (focus exact Kd.C_alloc hrow _); (focus exact one_C _ _); rintro e w2 ⟨rfl, ⟨nd2, rfl⟩⟩)
    | (go_at_call 27; (with_reducible refine (run_f0_c _ ?_).mono ?_); (focus exact he.below (B := w.heap.size) (by ((repeat' (first | (with_reducible refine bl_set ?_ ?_ _) | (with_reducible refine bl_alloc ?_ _) | (with_reducible refine bl_drewN ?_ _))) <;> (first | (with_reducible exact hb1) | (show _ ≤ World.heap.size _; exact (Below.size hb1)) | (exact Nat.le_trans (Below.size hb1) (Nat.le_refl _)) | (have hs := (Below.size hb1); simp; omega)))) he.size); rintro e w3 ⟨rfl, hc3⟩; have hb3 : Below w.heap.size w w3 := bl_trans (by ((repeat' (first | (with_reducible refine bl_set ?_ ?_ _) | (with_reducible refine bl_alloc ?_ _) | (with_reducible refine bl_drewN ?_ _))) <;> (first | (with_reducible exact hb1) | (show _ ≤ World.heap.size _; exact (Below.size hb1)) | (exact Nat.le_trans (Below.size hb1) (Nat.le_refl _)) | (have hs := (Below.size hb1); simp; omega)))) hc3; clear hc3)
    | (go_at_call 27; (with_reducible refine (run_f1_c _ ?_).mono ?_); (focus exact he.below (B := w.heap.size) (by ((repeat' (first | (with_reducible refine bl_set ?_ ?_ _) | (with_reducible refine bl_alloc ?_ _) | (with_reducible refine bl_drewN ?_ _))) <;> (first | (with_reducible exact hb3) | (show _ ≤ World.heap.size _; exact (Below.size hb3)) | (exact Nat.le_trans (Below.size hb3) (Nat.le_refl _)) | (have hs := (Below.size hb3); simp; omega)))) he.size); rintro e w4 ⟨rfl, hc4⟩; have hb4 : Below w.heap.size w w4 := bl_trans (by ((repeat' (first | (with_reducible refine bl_set ?_ ?_ _) | (with_reducible refine bl_alloc ?_ _) | (with_reducible refine bl_drewN ?_ _))) <;> (first | (with_reducible exact hb3) | (show _ ≤ World.heap.size _; exact (Below.size hb3)) | (exact Nat.le_trans (Below.size hb3) (Nat.le_refl _)) | (have hs := (Below.size hb3); simp; omega)))) hc4; clear hc4)
    | (go_at_call 27; (with_reducible refine (run_f2_c _ ?_).mono ?_); (focus exact he.below (B := w.heap.size) (by ((repeat' (first | (with_reducible refine bl_set ?_ ?_ _) | (with_reducible refine bl_alloc ?_ _) | (with_reducible refine bl_drewN ?_ _))) <;> (first | (with_reducible exact hb4) | (show _ ≤ World.heap.size _; exact (Below.size hb4)) | (exact Nat.le_trans (Below.size hb4) (Nat.le_refl _)) | (have hs := (Below.size hb4); simp; omega)))) he.size); rintro e w5 ⟨rfl, hc5⟩; have hb5 : Below w.heap.size w w5 := bl_trans (by ((repeat' (first | (with_reducible refine bl_set ?_ ?_ _) | (with_reducible refine bl_alloc ?_ _) | (with_reducible refine bl_drewN ?_ _))) <;> (first | (with_reducible exact hb4) | (show _ ≤ World.heap.size _; exact (Below.size hb4)) | (exact Nat.le_trans (Below.size hb4) (Nat.le_refl _)) | (have hs := (Below.size hb4); simp; omega)))) hc5; clear hc5)
    | (go_at_call 27; (with_reducible refine (run_f3_c _ ?_).mono ?_); (focus exact he.below (B := w.heap.size) (by ((repeat' (first | (with_reducible refine bl_set ?_ ?_ _) | (with_reducible refine bl_alloc ?_ _) | (with_reducible refine bl_drewN ?_ _))) <;> (first | (with_reducible exact hb5) | (show _ ≤ World.heap.size _; exact (Below.size hb5)) | (exact Nat.le_trans (Below.size hb5) (Nat.le_refl _)) | (have hs := (Below.size hb5); simp; omega)))) he.size); rintro e w6 ⟨rfl, hc6⟩; have hb6 : Below w.heap.size w w6 := bl_trans (by ((repeat' (first | (with_reducible refine bl_set ?_ ?_ _) | (with_reducible refine bl_alloc ?_ _) | (with_reducible refine bl_drewN ?_ _))) <;> (first | (with_reducible exact hb5) | (show _ ≤ World.heap.size _; exact (Below.size hb5)) | (exact Nat.le_trans (Below.size hb5) (Nat.le_refl _)) | (have hs := (Below.size hb5); simp; omega)))) hc6; clear hc6)
    | (go_at_call 28; (with_reducible refine (run_b0_c _ _ ?_).mono ?_); (focus exact one_C _ _); rintro e w7 ⟨rfl, hc7⟩; have hb7 : Below w.heap.size w w7 := bl_trans (by ((repeat' (first | (with_reducible refine bl_set ?_ ?_ _) | (with_reducible refine bl_alloc ?_ _) | (with_reducible refine bl_drewN ?_ _))) <;> (first | (with_reducible exact hb6) | (show _ ≤ World.heap.size _; exact (Below.size hb6)) | (exact Nat.le_trans (Below.size hb6) (Nat.le_refl _)) | (have hs := (Below.size hb6); simp; omega)))) hc7; clear hc7)
    | (go_at_call 28; (with_reducible refine (run_b1_c _ _ ?_).mono ?_); (focus exact one_C _ _); rintro e w8 ⟨rfl, hc8⟩; have hb8 : Below w.heap.size w w8 := bl_trans (by ((repeat' (first | (with_reducible refine bl_set ?_ ?_ _) | (with_reducible refine bl_alloc ?_ _) | (with_reducible refine bl_drewN ?_ _))) <;> (first | (with_reducible exact hb7) | (show _ ≤ World.heap.size _; exact (Below.size hb7)) | (exact Nat.le_trans (Below.size hb7) (Nat.le_refl _)) | (have hs := (Below.size hb7); simp; omega)))) hc8; clear hc8)
    | (go_at_call 28; (with_reducible refine (run_b2_c _).mono ?_); rintro e w9 ⟨rfl, hc9⟩; have hb9 : Below w.heap.size w w9 := bl_trans (by ((repeat' (first | (with_reducible refine bl_set ?_ ?_ _) | (with_reducible refine bl_alloc ?_ _) | (with_reducible refine bl_drewN ?_ _))) <;> (first | (with_reducible exact hb8) | (show _ ≤ World.heap.size _; exact (Below.size hb8)) | (exact Nat.le_trans (Below.size hb8) (Nat.le_refl _)) | (have hs := (Below.size hb8); simp; omega)))) hc9; clear hc9)
    | (go_at_call 29; (with_reducible refine (text_SpotOf.calls 60 ⟨#[97, 10, 195, 169, 98]⟩ 4 2 2 0 _ run_s4).mono ?_); rintro e w10 ⟨rfl, hc10⟩; have hb10 : Below w.heap.size w w10 := bl_trans (by ((repeat' (first | (with_reducible refine bl_set ?_ ?_ _) | (with_reducible refine bl_alloc ?_ _) | (with_reducible refine bl_drewN ?_ _))) <;> (first | (with_reducible exact hb9) | (show _ ≤ World.heap.size _; exact (Below.size hb9)) | (exact Nat.le_trans (Below.size hb9) (Nat.le_refl _)) | (have hs := (Below.size hb9); simp; omega)))) hc10; clear hc10)
    | (go_at_call 29; (with_reducible refine (text_SpotOf.calls 60 ⟨#[97, 10, 195, 169, 98]⟩ 3 0 0 10 _ run_s3).mono ?_); rintro e w11 ⟨rfl, hc11⟩; have hb11 : Below w.heap.size w w11 := bl_trans (by ((repeat' (first | (with_reducible refine bl_set ?_ ?_ _) | (with_reducible refine bl_alloc ?_ _) | (with_reducible refine bl_drewN ?_ _))) <;> (first | (with_reducible exact hb10) | (show _ ≤ World.heap.size _; exact (Below.size hb10)) | (exact Nat.le_trans (Below.size hb10) (Nat.le_refl _)) | (have hs := (Below.size hb10); simp; omega)))) hc11; have hpA11 : w11.heap[w10.heap.size]? = some (.cells #[.int .i64 2, .int .i64 2] 67 (0, 0)) := below_heap hc11 (heap_alloc_new w10 _); clear hc11)
    | (go_at_call 29; (with_reducible refine (text_SpotOf.calls 60 ⟨#[97, 10, 195, 169, 98]⟩ 5 2 3 0 _ run_s5).mono ?_); rintro e w12 ⟨rfl, hc12⟩; have hb12 : Below w.heap.size w w12 := bl_trans (by ((repeat' (first | (with_reducible refine bl_set ?_ ?_ _) | (with_reducible refine bl_alloc ?_ _) | (with_reducible refine bl_drewN ?_ _))) <;> (first | (with_reducible exact hb11) | (show _ ≤ World.heap.size _; exact (Below.size hb11)) | (exact Nat.le_trans (Below.size hb11) (Nat.le_refl _)) | (have hs := (Below.size hb11); simp; omega)))) hc12; have hpA12 := below_heap hc12 hpA11; clear hc12)
    | (go_at_call 30; (with_reducible refine (at_ok ⟨#[97, 10, 195, 169, 98]⟩ 2 2 [97, 10, 233, 98] _ (by decide) run_u).mono ?_); rintro e w13 ⟨rfl, hc13⟩; rw [run_at]; have hb13 : Below w.heap.size w w13 := bl_trans (by ((repeat' (first | (with_reducible refine bl_set ?_ ?_ _) | (with_reducible refine bl_alloc ?_ _) | (with_reducible refine bl_drewN ?_ _))) <;> (first | (with_reducible exact hb12) | (show _ ≤ World.heap.size _; exact (Below.size hb12)) | (exact Nat.le_trans (Below.size hb12) (Nat.le_refl _)) | (have hs := (Below.size hb12); simp; omega)))) hc13; have hpA13 : w13.heap[w10.heap.size]? = some (.cells #[.int .i64 2, .int .i64 2] 67 (0, 0)) := below_heap2 hc13 (by ((repeat' (first | (with_reducible refine bl_set ?_ ?_ _) | (with_reducible refine bl_alloc ?_ _) | (with_reducible refine bl_drewN ?_ _))) <;> (first | (with_reducible exact (Below.refl w12.heap.size w12)) | (show _ ≤ World.heap.size _; exact (Below.size (Below.refl w12.heap.size w12))) | (exact Nat.le_trans (Below.size (Below.refl w12.heap.size w12)) (Nat.le_refl _)) | (have hs := (Below.size (Below.refl w12.heap.size w12)); simp; omega)))) hpA12; have hpB13 : w13.heap[w12.heap.size]? = some (.cells #[.int .i64 2, .int .i64 3] 67 (0, 0)) := below_heap hc13 (heap_alloc_new w12 _); have cA0 := cell_at0 hpA13; have cA1 := cell_at1 hpA13; have cB0 := cell_at0 hpB13; have cB1 := cell_at1 hpB13; clear hc13)
    | (go_at_call 5; (with_reducible refine (quote_ok ⟨#[97, 34, 10, 1, 127]⟩ [97, 34, 10, 1, 127] _ (by decide) run_q).mono ?_); rintro e w14 ⟨rfl, hc14⟩; rw [run_qr]; have hb14 : Below w.heap.size w w14 := bl_trans (by ((repeat' (first | (with_reducible refine bl_set ?_ ?_ _) | (with_reducible refine bl_alloc ?_ _) | (with_reducible refine bl_drewN ?_ _))) <;> (first | (with_reducible exact hb13) | (show _ ≤ World.heap.size _; exact (Below.size hb13)) | (exact Nat.le_trans (Below.size hb13) (Nat.le_refl _)) | (have hs := (Below.size hb13); simp; omega)))) hc14; clear hc14)
    | (go_at_call 8; (with_reducible refine (run_uq _).mono ?_); rintro e w15 hpost; obtain ⟨_, rfl, hc15⟩ := Or.resolve_right hpost (fun h => h.1 rfl); rw [run_us]; have hb15 : Below w.heap.size w w15 := bl_trans (by ((repeat' (first | (with_reducible refine bl_set ?_ ?_ _) | (with_reducible refine bl_alloc ?_ _) | (with_reducible refine bl_drewN ?_ _))) <;> (first | (with_reducible exact hb14) | (show _ ≤ World.heap.size _; exact (Below.size hb14)) | (exact Nat.le_trans (Below.size hb14) (Nat.le_refl _)) | (have hs := (Below.size hb14); simp; omega)))) hc15; clear hc15)
    | (go_at_call 31; (with_reducible refine (unquoted_hit ⟨#[34, 92, 117, 100, 56, 51, 100, 34]⟩ 1 11 _ run_uq0 (by decide) (by decide) ?_).mono ?_); (focus exact he.below (B := w.heap.size) (by ((repeat' (first | (with_reducible refine bl_set ?_ ?_ _) | (with_reducible refine bl_alloc ?_ _) | (with_reducible refine bl_drewN ?_ _))) <;> (first | (with_reducible exact hb15) | (show _ ≤ World.heap.size _; exact (Below.size hb15)) | (exact Nat.le_trans (Below.size hb15) (Nat.le_refl _)) | (have hs := (Below.size hb15); simp; omega)))) he.size); rintro e w16 ⟨rfl, hc16⟩; have hb16 : Below w.heap.size w w16 := bl_trans (by ((repeat' (first | (with_reducible refine bl_set ?_ ?_ _) | (with_reducible refine bl_alloc ?_ _) | (with_reducible refine bl_drewN ?_ _))) <;> (first | (with_reducible exact hb15) | (show _ ≤ World.heap.size _; exact (Below.size hb15)) | (exact Nat.le_trans (Below.size hb15) (Nat.le_refl _)) | (have hs := (Below.size hb15); simp; omega)))) hc16; clear hc16)
    | (go_at_call 31; (with_reducible refine (unquoted_hit ⟨#[34, 92, 120, 34]⟩ 1 11 _ run_uq1 (by decide) (by decide) ?_).mono ?_); (focus exact he.below (B := w.heap.size) (by ((repeat' (first | (with_reducible refine bl_set ?_ ?_ _) | (with_reducible refine bl_alloc ?_ _) | (with_reducible refine bl_drewN ?_ _))) <;> (first | (with_reducible exact hb16) | (show _ ≤ World.heap.size _; exact (Below.size hb16)) | (exact Nat.le_trans (Below.size hb16) (Nat.le_refl _)) | (have hs := (Below.size hb16); simp; omega)))) he.size); rintro e w17 ⟨rfl, hc17⟩; have hb17 : Below w.heap.size w w17 := bl_trans (by ((repeat' (first | (with_reducible refine bl_set ?_ ?_ _) | (with_reducible refine bl_alloc ?_ _) | (with_reducible refine bl_drewN ?_ _))) <;> (first | (with_reducible exact hb16) | (show _ ≤ World.heap.size _; exact (Below.size hb16)) | (exact Nat.le_trans (Below.size hb16) (Nat.le_refl _)) | (have hs := (Below.size hb16); simp; omega)))) hc17; clear hc17)
    | (go_at_call 31; (with_reducible refine (unquoted_hit ⟨#[34, 97]⟩ 2 14 _ run_uq2 (by decide) (by decide) ?_).mono ?_); (focus exact he.below (B := w.heap.size) (by ((repeat' (first | (with_reducible refine bl_set ?_ ?_ _) | (with_reducible refine bl_alloc ?_ _) | (with_reducible refine bl_drewN ?_ _))) <;> (first | (with_reducible exact hb17) | (show _ ≤ World.heap.size _; exact (Below.size hb17)) | (exact Nat.le_trans (Below.size hb17) (Nat.le_refl _)) | (have hs := (Below.size hb17); simp; omega)))) he.size); rintro e w18 ⟨rfl, hc18⟩; have hb18 : Below w.heap.size w w18 := bl_trans (by ((repeat' (first | (with_reducible refine bl_set ?_ ?_ _) | (with_reducible refine bl_alloc ?_ _) | (with_reducible refine bl_drewN ?_ _))) <;> (first | (with_reducible exact hb17) | (show _ ≤ World.heap.size _; exact (Below.size hb17)) | (exact Nat.le_trans (Below.size hb17) (Nat.le_refl _)) | (have hs := (Below.size hb17); simp; omega)))) hc18; clear hc18)
    | (go_at_call 31; (with_reducible refine (unquoted_hit ⟨#[34, 97, 34, 98]⟩ 3 13 _ run_uq3 (by decide) (by decide) ?_).mono ?_); (focus exact he.below (B := w.heap.size) (by ((repeat' (first | (with_reducible refine bl_set ?_ ?_ _) | (with_reducible refine bl_alloc ?_ _) | (with_reducible refine bl_drewN ?_ _))) <;> (first | (with_reducible exact hb18) | (show _ ≤ World.heap.size _; exact (Below.size hb18)) | (exact Nat.le_trans (Below.size hb18) (Nat.le_refl _)) | (have hs := (Below.size hb18); simp; omega)))) he.size); rintro e w19 ⟨rfl, hc19⟩; have hb19 : Below w.heap.size w w19 := bl_trans (by ((repeat' (first | (with_reducible refine bl_set ?_ ?_ _) | (with_reducible refine bl_alloc ?_ _) | (with_reducible refine bl_drewN ?_ _))) <;> (first | (with_reducible exact hb18) | (show _ ≤ World.heap.size _; exact (Below.size hb18)) | (exact Nat.le_trans (Below.size hb18) (Nat.le_refl _)) | (have hs := (Below.size hb18); simp; omega)))) hc19; clear hc19)
    | (go_at_call 31; (with_reducible refine (unquoted_hit ⟨#[97]⟩ 0 13 _ run_uq4 (by decide) (by decide) ?_).mono ?_); (focus exact he.below (B := w.heap.size) (by ((repeat' (first | (with_reducible refine bl_set ?_ ?_ _) | (with_reducible refine bl_alloc ?_ _) | (with_reducible refine bl_drewN ?_ _))) <;> (first | (with_reducible exact hb19) | (show _ ≤ World.heap.size _; exact (Below.size hb19)) | (exact Nat.le_trans (Below.size hb19) (Nat.le_refl _)) | (have hs := (Below.size hb19); simp; omega)))) he.size); rintro e w20 ⟨rfl, hc20⟩; have hb20 : Below w.heap.size w w20 := bl_trans (by ((repeat' (first | (with_reducible refine bl_set ?_ ?_ _) | (with_reducible refine bl_alloc ?_ _) | (with_reducible refine bl_drewN ?_ _))) <;> (first | (with_reducible exact hb19) | (show _ ≤ World.heap.size _; exact (Below.size hb19)) | (exact Nat.le_trans (Below.size hb19) (Nat.le_refl _)) | (have hs := (Below.size hb19); simp; omega)))) hc20; clear hc20)
    | (go_at_call 32; (with_reducible refine (run_es1 _).mono ?_); rintro e w21 ⟨rfl, hc21⟩; have hb21 : Below w.heap.size w w21 := bl_trans (by ((repeat' (first | (with_reducible refine bl_set ?_ ?_ _) | (with_reducible refine bl_alloc ?_ _) | (with_reducible refine bl_drewN ?_ _))) <;> (first | (with_reducible exact hb20) | (show _ ≤ World.heap.size _; exact (Below.size hb20)) | (exact Nat.le_trans (Below.size hb20) (Nat.le_refl _)) | (have hs := (Below.size hb20); simp; omega)))) hc21; clear hc21)
    | (go_at_call 32; (with_reducible refine (run_es0 _).mono ?_); rintro e w22 ⟨rfl, hc22⟩; have hb22 : Below w.heap.size w w22 := bl_trans (by ((repeat' (first | (with_reducible refine bl_set ?_ ?_ _) | (with_reducible refine bl_alloc ?_ _) | (with_reducible refine bl_drewN ?_ _))) <;> (first | (with_reducible exact hb21) | (show _ ≤ World.heap.size _; exact (Below.size hb21)) | (exact Nat.le_trans (Below.size hb21) (Nat.le_refl _)) | (have hs := (Below.size hb21); simp; omega)))) hc22; clear hc22)
    | (go_at_call 32; (with_reducible refine (run_esx _).mono ?_); rintro e w23 ⟨rfl, hc23⟩; have hb23 : Below w.heap.size w w23 := bl_trans (by ((repeat' (first | (with_reducible refine bl_set ?_ ?_ _) | (with_reducible refine bl_alloc ?_ _) | (with_reducible refine bl_drewN ?_ _))) <;> (first | (with_reducible exact hb22) | (show _ ≤ World.heap.size _; exact (Below.size hb22)) | (exact Nat.le_trans (Below.size hb22) (Nat.le_refl _)) | (have hs := (Below.size hb22); simp; omega)))) hc23; clear hc23)
    | (go_at_call 33; (with_reducible refine (run_ue _).mono ?_); rintro e w24 hpost; obtain ⟨_, rfl, hc24⟩ := Or.resolve_right hpost (fun h => h.1 rfl); rw [run_xs]; have hb24 : Below w.heap.size w w24 := bl_trans (by ((repeat' (first | (with_reducible refine bl_set ?_ ?_ _) | (with_reducible refine bl_alloc ?_ _) | (with_reducible refine bl_drewN ?_ _))) <;> (first | (with_reducible exact hb23) | (show _ ≤ World.heap.size _; exact (Below.size hb23)) | (exact Nat.le_trans (Below.size hb23) (Nat.le_refl _)) | (have hs := (Below.size hb23); simp; omega)))) hc24; clear hc24)
    | (go_at_call 34; (with_reducible refine (unescaped_hit ⟨#[97, 38, 98]⟩ 1 11 _ run_ue0 (by decide) (by decide) ?_).mono ?_); (focus exact he.below (B := w.heap.size) (by ((repeat' (first | (with_reducible refine bl_set ?_ ?_ _) | (with_reducible refine bl_alloc ?_ _) | (with_reducible refine bl_drewN ?_ _))) <;> (first | (with_reducible exact hb24) | (show _ ≤ World.heap.size _; exact (Below.size hb24)) | (exact Nat.le_trans (Below.size hb24) (Nat.le_refl _)) | (have hs := (Below.size hb24); simp; omega)))) he.size); rintro e w25 ⟨rfl, hc25⟩; have hb25 : Below w.heap.size w w25 := bl_trans (by ((repeat' (first | (with_reducible refine bl_set ?_ ?_ _) | (with_reducible refine bl_alloc ?_ _) | (with_reducible refine bl_drewN ?_ _))) <;> (first | (with_reducible exact hb24) | (show _ ≤ World.heap.size _; exact (Below.size hb24)) | (exact Nat.le_trans (Below.size hb24) (Nat.le_refl _)) | (have hs := (Below.size hb24); simp; omega)))) hc25; clear hc25)
    | (go_at_call 34; (with_reducible refine (unescaped_hit ⟨#[38, 35, 48, 59]⟩ 0 11 _ run_ue1 (by decide) (by decide) ?_).mono ?_); (focus exact he.below (B := w.heap.size) (by ((repeat' (first | (with_reducible refine bl_set ?_ ?_ _) | (with_reducible refine bl_alloc ?_ _) | (with_reducible refine bl_drewN ?_ _))) <;> (first | (with_reducible exact hb25) | (show _ ≤ World.heap.size _; exact (Below.size hb25)) | (exact Nat.le_trans (Below.size hb25) (Nat.le_refl _)) | (have hs := (Below.size hb25); simp; omega)))) he.size); rintro e w26 ⟨rfl, hc26⟩; have hb26 : Below w.heap.size w w26 := bl_trans (by ((repeat' (first | (with_reducible refine bl_set ?_ ?_ _) | (with_reducible refine bl_alloc ?_ _) | (with_reducible refine bl_drewN ?_ _))) <;> (first | (with_reducible exact hb25) | (show _ ≤ World.heap.size _; exact (Below.size hb25)) | (exact Nat.le_trans (Below.size hb25) (Nat.le_refl _)) | (have hs := (Below.size hb25); simp; omega)))) hc26; clear hc26)
    | (go_at_call 34; (with_reducible refine (unescaped_hit ⟨#[97, 60]⟩ 1 13 _ run_ue2 (by decide) (by decide) ?_).mono ?_); (focus exact he.below (B := w.heap.size) (by ((repeat' (first | (with_reducible refine bl_set ?_ ?_ _) | (with_reducible refine bl_alloc ?_ _) | (with_reducible refine bl_drewN ?_ _))) <;> (first | (with_reducible exact hb26) | (show _ ≤ World.heap.size _; exact (Below.size hb26)) | (exact Nat.le_trans (Below.size hb26) (Nat.le_refl _)) | (have hs := (Below.size hb26); simp; omega)))) he.size); rintro e w27 ⟨rfl, hc27⟩; have hb27 : Below w.heap.size w w27 := bl_trans (by ((repeat' (first | (with_reducible refine bl_set ?_ ?_ _) | (with_reducible refine bl_alloc ?_ _) | (with_reducible refine bl_drewN ?_ _))) <;> (first | (with_reducible exact hb26) | (show _ ≤ World.heap.size _; exact (Below.size hb26)) | (exact Nat.le_trans (Below.size hb26) (Nat.le_refl _)) | (have hs := (Below.size hb26); simp; omega)))) hc27; clear hc27))
  go_ret
  exact ⟨rfl, by ((repeat' (first | (with_reducible refine bl_set ?_ ?_ _) | (with_reducible refine bl_alloc ?_ _) | (with_reducible refine bl_drewN ?_ _))) <;> (first | (with_reducible exact hb27) | (show _ ≤ World.heap.size _; exact (Below.size hb27)) | (exact Nat.le_trans (Below.size hb27) (Nat.le_refl _)) | (have hs := (Below.size hb27); simp; omega)))⟩
end Go.Proofs.YtgdfgahpjebcaaaGreatDoor
/-
  From the rows' condition (four listed variables) to Env; a world that meets it.
-/
namespace Go.Proofs.YtgdfgahpjebcaaaGreatDoor
open Go.ChangeShapes Go.WideShapes Go.RowKit

abbrev laid4 : List (String × DataW Unit) := [("math/bits.deBruijn32tab", Rows.laid_math_bits_deBruijn32tab), ("math/bits.deBruijn64tab", Rows.laid_math_bits_deBruijn64tab), ("internal/strconv.uint64pow10", Rows.laid_internal_strconv_uint64pow10), ("errors.errorType", Rows.laid_errors_errorType)]
theorem ownk : ownKnob Tryz.prog.godebug = none := by kernel_rfl
theorem globErr : Tryz.prog.globalNamed "errors.errorType" = some 0 := by kernel_rfl
theorem rtNum : (Tryz.prog.cutTypes.find? (·.1 == "internal/reflectlite.rtype")).map (·.2) = some 113 := by kernel_rfl
theorem typesN : Tryz.prog.types.size = 170 := by kernel_rfl
theorem oneRow : ((List.range 170).filter fun t => Tryz.prog.rowNamed t [101, 114, 114, 111, 114]) = [30] := by kernel_rfl
theorem powTy : (Tryz.prog.globals[1]?).map (·.type) = some 137 := by kernel_rfl
theorem powCells : Tryz.prog.cellsOf 137 = 20 := by kernel_rfl
theorem u64Cells : Tryz.prog.cellsOf 130 = 1 := by kernel_rfl

theorem laidMet_tail {P : Program} {x : String × DataW Unit} {rest : List (String × DataW Unit)} {W : World} (h : laidMet P (x :: rest) W) : laidMet P rest W := by
  obtain ⟨ps, ⟨g', t', cs, fuel, p, q, hg', ht', hvar, hd, hr, rfl⟩, hnd, hc⟩ := h
  exact ⟨q, hr, (List.nodup_append.1 hnd).2.1, fun b off hm => hc b off (List.mem_append_right _ hm)⟩

theorem glob64 : Tryz.prog.globalNamed "math/bits.deBruijn64tab" = some 3 := by kernel_rfl
theorem var_lt {P : Program} {W : World} {n : String} {g : Nat} {cs : Array Value} (hg : P.globalNamed n = some g) (h : W.var? P n = some cs) : g < W.heap.size := by
  by_cases hk : g < W.heap.size
  · exact hk
  · exfalso
    simp [World.var?, hg, Array.getElem?_eq_none (Nat.le_of_not_lt hk)] at h
theorem env_of_laid {W : World} (h : laidMetH Tryz.prog laid4 W) : Env W := by
  have h' : laidMet Tryz.prog [("math/bits.deBruijn32tab", Rows.laid_math_bits_deBruijn32tab), ("math/bits.deBruijn64tab", Rows.laid_math_bits_deBruijn64tab), ("internal/strconv.uint64pow10", Rows.laid_internal_strconv_uint64pow10)] W ∧ handlesMet Tryz.prog [("errors.errorType", Rows.laid_errors_errorType)] W := h
  obtain ⟨hd, hh⟩ := h'
  have hpow := laidMet_tail (laidMet_tail hd)
  have htab : Lib.TabIs Tryz.prog W "internal/strconv.uint64pow10" .u64 Lib.pow10Tab := Lib.tabIs_of_head Tryz.globPow powTy Tryz.underlying137 Tryz.underlying130 u64Cells powCells (rest := []) hpow
  obtain ⟨name, u, ty, e1, e2, e3, e4, e5⟩ := hh _ (List.mem_singleton.2 rfl)
  have en : name = [101, 114, 114, 111, 114] := (Option.some.inj e1).symm
  subst en
  obtain rfl := Option.some.inj (rtNum.symm.trans e2)
  have hm : ty ∈ (List.range 170).filter fun t => Tryz.prog.rowNamed t [101, 114, 114, 111, 114] := List.mem_filter.2 ⟨List.mem_range.2 (by rw [← typesN]; exact e3), e4⟩
  rw [oneRow] at hm
  obtain rfl := List.mem_singleton.1 hm
  have hth : typeHandle Tryz.prog 30 = .pointer (some ⟨4, 30, none⟩) := by kernel_rfl
  rw [hth] at e5
  have hcell : W.cell? ⟨0, 0, none⟩ = some (.iface 113 (.agg #[.pointer (some ⟨4, 30, none⟩)])) := by simpa using World.var?_cell globErr e5 0
  refine ⟨hcell, htab, ?_⟩
  have h64 := laidMet_tail hd
  obtain ⟨ps, ⟨g', t', cs, fuel, p, q, hg', ht', hvar, hd', hr, _⟩, hnd, hc⟩ := h64
  obtain rfl := Option.some.inj (glob64.symm.trans hg')
  exact var_lt hg' hvar
/-- The door's own heap meets the condition. -/
theorem door_met (os : Os) (args : Array Value) : laidMetH Tryz.prog laid4 ((World.doorLaid Tryz.prog 400 os).forCall (fun _ _ => 0) ⟨#[], args, []⟩).memory :=
  laidMetH_of_parts3 (fuel := 8) (laidMet_of_run' 8 (by kernel_rfl) (by kernel_rfl)) (by kernel_rfl) (by kernel_rfl)
end Go.Proofs.YtgdfgahpjebcaaaGreatDoor
