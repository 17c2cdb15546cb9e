/-
  num.Whole, walked. PRINTED by gen_nm.py.
-/
import Derived.Test.YtjaongknagmfiaaGreatDoorNl
import Derived.Laws.BitsAllLaws
set_option linter.unusedSimpArgs false
set_option linter.unusedVariables false
namespace Go.Proofs.YtjaongknagmfiaaGreatDoor
open Go.RowKit Go.Proofs.YtjaongknagmfiaaGreatDoorW.PrintWords Go.Proofs.YtjaongknagmfiaaGreatDoor.PT

/-- A digit's value; 16: it is none. -/
def valN (c : UInt8) : Nat := if isD c = true then c.toNat - 48 else if 97 ≤ c.toNat ∧ c.toNat ≤ 102 then c.toNat - 87 else if 65 ≤ c.toNat ∧ c.toNat ≤ 70 then c.toNat - 55 else 16
theorem value_any (c : UInt8) (w : World) : Calls Tryz.prog 35 #[.int .u8 c.toNat] w fun e w' => e = .returned (.int .u64 (valN c)) ∧ Drawn0 w w' := by
  have h : ∀ n : Fin 256, num_value.f 10 ((UInt8.ofNat n.val).toNat : Int) = some ((valN (UInt8.ofNat n.val) : Nat) : Int) := by decide +kernel
  have h1 := h ⟨c.toNat, c.toNat_lt⟩
  simp only [UInt8.ofNat_toNat] at h1
  exact num_value.calls 10 c.toNat _ w h1
theorem valN_le (c : UInt8) : valN c ≤ 16 := by
  have h : ∀ n : Fin 256, valN (UInt8.ofNat n.val) ≤ 16 := by decide +kernel
  have h1 := h ⟨c.toNat, c.toNat_lt⟩
  simp only [UInt8.ofNat_toNat] at h1
  exact h1
/-- Whole's loop, in the base 2 ^ s: the number so far, whether it is too great, whether a digit stands ahead. -/
def wrun (s : Nat) : List UInt8 → Nat → Bool → Bool → Option (Nat × Bool × Bool)
  | [], n, far, seen => some (n, far, seen)
  | c :: r, n, far, seen =>
    if c = 95 ∧ seen = true ∧ r ≠ [] then wrun s r n far false
    else if 2 ^ s ≤ valN c then none
    else wrun s r (n * 2 ^ s % 18446744073709551616 + valN c) (far || decide (n / 2 ^ (63 - s) ≠ 0)) true
theorem decDigits_le20 (n : Nat) (h : n < 18446744073709551616) : (Lib.decDigits n).length ≤ 20 := by
  rw [Lib.decDigits_length]
  by_cases h1 : 1 ≤ n
  · have := Lib.numDigits_eq n h1 h; split at this <;> omega
  · obtain rfl : n = 0 := by omega
    rw [Lib.nDigits_small (by decide)]; decide
theorem or_step (s n v : Nat) (hs : s ≤ 60) (hv : v < 2 ^ s) : bits .or .u64 (IntKind.u64.wrap ((n : Int) * ((2 ^ s : Nat) : Int))) (v : Int) = ((n * 2 ^ s % 18446744073709551616 + v : Nat) : Int) := by
  have h1 : IntKind.u64.wrap ((n : Int) * ((2 ^ s : Nat) : Int)) = ((n * 2 ^ s % 18446744073709551616 : Nat) : Int) := by
    rw [IntKind.wrap_u64, ← Int.natCast_mul]
    exact (Int.natCast_emod (n * 2 ^ s) 18446744073709551616).symm
  have h2 : 2 ^ s ≤ 2 ^ 60 := Nat.pow_le_pow_right (by decide) hs
  rw [h1, u64_or_nat _ _ (Nat.mod_lt _ (by decide)) (by omega)]
  congr 1
  have h3 : n * 2 ^ s % 18446744073709551616 = 2 ^ s * (n % 2 ^ (64 - s)) := by
    have : (18446744073709551616 : Nat) = 2 ^ s * 2 ^ (64 - s) := by rw [← Nat.pow_add, show s + (64 - s) = 64 by omega]
    rw [this, Nat.mul_comm n, Nat.mul_mod_mul_left]
  rw [h3]
  exact (Nat.two_pow_add_eq_or_of_lt hv _).symm
theorem far_step (n m : Nat) : ((n : Int) / (m : Int) != 0) = decide (n / m ≠ 0) := by
  have : (n : Int) / (m : Int) = ((n / m : Nat) : Int) := by rw [Int.natCast_ediv]
  rw [this]
  by_cases h : n / m = 0
  · simp [h]
  · have h2 : ((n / m : Nat) : Int) ≠ 0 := by omega
    rw [decide_eq_true h]
    exact bne_iff_ne.2 h2
def wholeE : Option (Nat × Bool × Bool) → List UInt8 × Int
  | none => ([], 12)
  | some (n, far, seen) => if seen = false then ([], 12) else if far = true then ([], 5) else normL (Lib.decDigits n)
/-- What num.Whole answers. -/
def wholeL (l : List UInt8) (base : Int) : List UInt8 × Int :=
  if base = 2 then wholeE (wrun 1 l 0 false false) else if base = 8 then wholeE (wrun 3 l 0 false false) else if base = 16 then wholeE (wrun 4 l 0 false false) else ([], 1)

set_option maxHeartbeats 4000000 in
set_option maxRecDepth 100000 in
theorem whole_2 (l : List UInt8) (w : World) (hl : l.length ≤ 50000) (he : Env w) : Calls Tryz.prog 17 #[.string (B l), .int .i64 2] w fun e w' => e = .returned (.tuple #[.string (B (wholeE (wrun 1 l 0 false false)).1), .int .i64 (wholeE (wrun 1 l 0 false false)).2]) ∧ Below w.heap.size w w' := by
  obtain ⟨X, hX⟩ : ∃ X, wholeE (wrun 1 l 0 false false) = X := ⟨_, rfl⟩
  rw [hX]
  have HX := Aside0.mk hX
  have HE := Aside0.mk he
  have z0 : (B l).size = l.length := rfl
  clear he hX
  go_enter Tryz.func17, Tryz.ntmps17
  go_wp2
  go_loopg [7, 8, 9, 21] (l.length) (fun kq v7 v8 v9 v21 w' => ∃ (i n : Nat) (far seen : Bool), v7 = .int .u64 n ∧ v8 = .bool far ∧ v9 = .bool seen ∧ v21 = .int .i64 i ∧ Aside0 (kq = l.length - i ∧ i ≤ l.length ∧ n < 18446744073709551616) ∧ Aside0 (wholeE (wrun 1 (l.drop i) n far seen) = X) ∧ Drawn0 w w')
  case atStart => exact ⟨0, 0, false, false, rfl, rfl, rfl, rfl, ⟨rfl, Nat.zero_le _, by decide⟩, HX, Drawn0.refl _⟩
  case round =>
    obtain ⟨i, n, far, seen, rfl, rfl, rfl, rfl, HK, HX, ⟨nd, rfl⟩⟩ := hrel
    obtain ⟨hk, hi, hn⟩ := HK.out
    have HKQ := Aside0.mk hk
    clear hk HK
    by_cases hlt : i < l.length
    · have hi2 : i < (B l).size := hlt
      obtain ⟨c, hc⟩ : ∃ c, l[i]? = some c := ⟨l[i], List.getElem?_eq_getElem hlt⟩
      have q5 := idxn l i hi2 c hc
      have hdr : l.drop i = c :: l.drop (i + 1) := by
        rw [List.drop_eq_getElem_cons hlt]
        rw [List.getElem?_eq_getElem hlt] at hc
        injection hc with hc
        rw [hc]
      have hx := HX.out
      rw [hdr] at hx
      have hdn : l.drop (i + 1) = [] ↔ ¬ i + 1 < l.length := by
        rw [List.drop_eq_nil_iff]; omega
      unfold wrun at hx
      clear hc hdr
      obtain ⟨g, hg⟩ : ∃ g, decide (c = 95 ∧ seen = true ∧ l.drop (i + 1) ≠ []) = g := ⟨_, rfl⟩
      have HG := Aside0.mk hg
      have HXX := Aside0.mk hx
      clear hg hx HX
      go_upto_region 16 with (first
        | (go_at_call 35; (with_reducible refine (value_any c _).mono ?_); rintro e w2 ⟨rfl, ⟨nd2, rfl⟩⟩))
      go_cut [28] (fun s28 wx => s28 = .bool g ∧ Drawn0 w wx)
      case first =>
        have hg := HG.out
        by_cases h1 : c = 95
        · have e1 : ((c.toNat : Int) == 95) = true := by subst h1; rfl
          cases seen with
          | true =>
            by_cases h2 : i + 1 < l.length
            · have e2 : ((i : Int) + 1 < (l.length : Int)) = True := eq_true (by omega)
              have hgt : g = true := by rw [← hg]; exact decide_eq_true ⟨h1, rfl, fun h => hdn.1 h h2⟩
              subst hgt
              clear hg h1 hdn
              go_wp2
              go_meet
              exact ⟨rfl, by repeat (first | exact Drawn0.refl _ | apply Drawn0.step)⟩
            · have e2 : ((i : Int) + 1 < (l.length : Int)) = False := eq_false (by omega)
              have hgt : g = false := by rw [← hg]; exact decide_eq_false (fun h => h.2.2 (hdn.2 h2))
              subst hgt
              clear hg h1 hdn
              go_wp2
              go_meet
              exact ⟨rfl, by repeat (first | exact Drawn0.refl _ | apply Drawn0.step)⟩
          | false =>
            have hgt : g = false := by rw [← hg]; exact decide_eq_false (fun h => by cases h.2.1)
            subst hgt
            clear hg h1 hdn
            go_wp2
            go_meet
            exact ⟨rfl, by repeat (first | exact Drawn0.refl _ | apply Drawn0.step)⟩
        · have e1 : ((c.toNat : Int) == 95) = false := by
            have : ¬ (c.toNat : Int) = 95 := fun h => h1 (UInt8.toNat_inj.1 (by show c.toNat = 95; omega))
            simpa using this
          have hgt : g = false := by rw [← hg]; exact decide_eq_false (fun h => h1 h.1)
          subst hgt
          clear hg hdn
          go_wp2
          go_meet
          exact ⟨rfl, by repeat (first | exact Drawn0.refl _ | apply Drawn0.step)⟩
      case rest =>
        obtain ⟨rfl, ⟨nd3, rfl⟩⟩ := hcut
        have hx := HXX.out
        cases g with
        | true =>
          rw [if_pos (of_decide_eq_true HG.out)] at hx
          have HX := Aside0.mk hx
          clear hx HXX q5 hdn
          go_wp2
          go_roundg (l.length - (i + 1))
          case measure => have := HKQ.out; omega
          case rel => exact ⟨i + 1, n, far, false, rfl, rfl, rfl, by go_num, ⟨rfl, by omega, hn⟩, HX, by repeat (first | exact Drawn0.refl _ | apply Drawn0.step)⟩
        | false =>
          rw [if_neg (of_decide_eq_false HG.out)] at hx
          have hv := valN_le c
          obtain ⟨v, hvv⟩ : ∃ v, valN c = v := ⟨_, rfl⟩
          rw [hvv] at hx hv
          simp only [hvv]
          by_cases hb : 2 ^ 1 ≤ v
          · rw [if_pos hb] at hx
            have hx2 : X = ([], 12) := hx.symm
            subst hx2
            have e3 : ((2 : Int) ≤ (v : Int)) = True := eq_true (by omega)
            clear hx hb hvv q5 hdn
            go_wp2
            go_ret2
            exact ⟨rfl, Drawn0.below (by repeat (first | exact Drawn0.refl _ | apply Drawn0.step))⟩
          · rw [if_neg hb] at hx
            have e3 : ((2 : Int) ≤ (v : Int)) = False := eq_false (by omega)
            have hvb : v < 2 := by omega
            have HX := Aside0.mk hx
            clear hx hb hvv q5 hdn
            have ho := or_step 1 n v (by decide) (by omega)
            have hr : n * 2 ^ 1 % 18446744073709551616 + v < 18446744073709551616 := by
              have : n * 2 ^ 1 % 18446744073709551616 = 2 ^ 1 * (n % 2 ^ (64 - 1)) := by
                rw [show (18446744073709551616 : Nat) = 2 ^ 1 * 2 ^ (64 - 1) by rfl, Nat.mul_comm n, Nat.mul_mod_mul_left]
              have : n % 2 ^ (64 - 1) < 2 ^ (64 - 1) := Nat.mod_lt _ (by decide)
              have h64 : 2 ^ (64 - 1) = 9223372036854775808 := rfl
              have hsh : 2 ^ 1 = 2 := rfl
              omega
            have HO := Aside0.mk ho
            have HR := Aside0.mk hr
            clear ho hr
            cases far with
            | true =>
              go_wp2
              go_roundg (l.length - (i + 1))
              case measure => have := HKQ.out; omega
              case rel => exact ⟨i + 1, _, true, true, congrArg (Value.int .u64) HO.out, rfl, rfl, by go_num, ⟨rfl, by omega, HR.out⟩, HX, by repeat (first | exact Drawn0.refl _ | apply Drawn0.step)⟩
            | false =>
              go_wp2
              go_roundg (l.length - (i + 1))
              case measure => have := HKQ.out; omega
              case rel => exact ⟨i + 1, _, _, true, congrArg (Value.int .u64) HO.out, congrArg Value.bool (far_step n (2 ^ (63 - 1))), rfl, by go_num, ⟨rfl, by omega, HR.out⟩, HX, by repeat (first | exact Drawn0.refl _ | apply Drawn0.step)⟩
    · have hil : i = l.length := by omega
      have hx := HX.out
      rw [List.drop_eq_nil_of_le (by omega)] at hx
      unfold wrun wholeE at hx
      simp only at hx
      clear HX hil
      cases seen with
      | false =>
        rw [if_pos rfl] at hx
        subst hx
        go_wp2
        go_ret2
        exact ⟨rfl, Drawn0.below (by repeat (first | exact Drawn0.refl _ | apply Drawn0.step))⟩
      | true =>
        rw [if_neg (by decide)] at hx
        cases far with
        | true =>
          rw [if_pos rfl] at hx
          subst hx
          go_wp2
          go_ret2
          exact ⟨rfl, Drawn0.below (by repeat (first | exact Drawn0.refl _ | apply Drawn0.step))⟩
        | false =>
          rw [if_neg (by decide)] at hx
          have HD := Aside0.mk (fun (w : World) (he : Env w) => normal_any (Lib.decDigits n) w (by have := decDigits_le20 n hn; omega) he)
          rw [hx] at HD
          have HBB := Aside0.mk (Below.refl w.heap.size w)
          clear hx
          go_wp2_with (first
            | (go_at_call 36; (with_reducible refine (formatUint_any n hn _ (HE.out.below (bl_drewN HBB.out _) HE.out.size)).mono ?_); rintro e w2 ⟨rfl, hb2⟩)
            | (go_at_call 10; (with_reducible refine (HD.out _ ((HE.out.below (bl_drewN HBB.out _) HE.out.size).below hb2 (Nat.le_trans HE.out.size (by simp)))).mono ?_); rintro e w3 ⟨rfl, hb3⟩))
          go_ret2
          exact ⟨rfl, bl_trans (bl_trans (bl_drewN HBB.out _) hb2) hb3⟩

set_option maxHeartbeats 4000000 in
set_option maxRecDepth 100000 in
theorem whole_8 (l : List UInt8) (w : World) (hl : l.length ≤ 50000) (he : Env w) : Calls Tryz.prog 17 #[.string (B l), .int .i64 8] w fun e w' => e = .returned (.tuple #[.string (B (wholeE (wrun 3 l 0 false false)).1), .int .i64 (wholeE (wrun 3 l 0 false false)).2]) ∧ Below w.heap.size w w' := by
  obtain ⟨X, hX⟩ : ∃ X, wholeE (wrun 3 l 0 false false) = X := ⟨_, rfl⟩
  rw [hX]
  have HX := Aside0.mk hX
  have HE := Aside0.mk he
  have z0 : (B l).size = l.length := rfl
  clear he hX
  go_enter Tryz.func17, Tryz.ntmps17
  go_wp2
  go_loopg [7, 8, 9, 21] (l.length) (fun kq v7 v8 v9 v21 w' => ∃ (i n : Nat) (far seen : Bool), v7 = .int .u64 n ∧ v8 = .bool far ∧ v9 = .bool seen ∧ v21 = .int .i64 i ∧ Aside0 (kq = l.length - i ∧ i ≤ l.length ∧ n < 18446744073709551616) ∧ Aside0 (wholeE (wrun 3 (l.drop i) n far seen) = X) ∧ Drawn0 w w')
  case atStart => exact ⟨0, 0, false, false, rfl, rfl, rfl, rfl, ⟨rfl, Nat.zero_le _, by decide⟩, HX, Drawn0.refl _⟩
  case round =>
    obtain ⟨i, n, far, seen, rfl, rfl, rfl, rfl, HK, HX, ⟨nd, rfl⟩⟩ := hrel
    obtain ⟨hk, hi, hn⟩ := HK.out
    have HKQ := Aside0.mk hk
    clear hk HK
    by_cases hlt : i < l.length
    · have hi2 : i < (B l).size := hlt
      obtain ⟨c, hc⟩ : ∃ c, l[i]? = some c := ⟨l[i], List.getElem?_eq_getElem hlt⟩
      have q5 := idxn l i hi2 c hc
      have hdr : l.drop i = c :: l.drop (i + 1) := by
        rw [List.drop_eq_getElem_cons hlt]
        rw [List.getElem?_eq_getElem hlt] at hc
        injection hc with hc
        rw [hc]
      have hx := HX.out
      rw [hdr] at hx
      have hdn : l.drop (i + 1) = [] ↔ ¬ i + 1 < l.length := by
        rw [List.drop_eq_nil_iff]; omega
      unfold wrun at hx
      clear hc hdr
      obtain ⟨g, hg⟩ : ∃ g, decide (c = 95 ∧ seen = true ∧ l.drop (i + 1) ≠ []) = g := ⟨_, rfl⟩
      have HG := Aside0.mk hg
      have HXX := Aside0.mk hx
      clear hg hx HX
      go_upto_region 16 with (first
        | (go_at_call 35; (with_reducible refine (value_any c _).mono ?_); rintro e w2 ⟨rfl, ⟨nd2, rfl⟩⟩))
      go_cut [28] (fun s28 wx => s28 = .bool g ∧ Drawn0 w wx)
      case first =>
        have hg := HG.out
        by_cases h1 : c = 95
        · have e1 : ((c.toNat : Int) == 95) = true := by subst h1; rfl
          cases seen with
          | true =>
            by_cases h2 : i + 1 < l.length
            · have e2 : ((i : Int) + 1 < (l.length : Int)) = True := eq_true (by omega)
              have hgt : g = true := by rw [← hg]; exact decide_eq_true ⟨h1, rfl, fun h => hdn.1 h h2⟩
              subst hgt
              clear hg h1 hdn
              go_wp2
              go_meet
              exact ⟨rfl, by repeat (first | exact Drawn0.refl _ | apply Drawn0.step)⟩
            · have e2 : ((i : Int) + 1 < (l.length : Int)) = False := eq_false (by omega)
              have hgt : g = false := by rw [← hg]; exact decide_eq_false (fun h => h.2.2 (hdn.2 h2))
              subst hgt
              clear hg h1 hdn
              go_wp2
              go_meet
              exact ⟨rfl, by repeat (first | exact Drawn0.refl _ | apply Drawn0.step)⟩
          | false =>
            have hgt : g = false := by rw [← hg]; exact decide_eq_false (fun h => by cases h.2.1)
            subst hgt
            clear hg h1 hdn
            go_wp2
            go_meet
            exact ⟨rfl, by repeat (first | exact Drawn0.refl _ | apply Drawn0.step)⟩
        · have e1 : ((c.toNat : Int) == 95) = false := by
            have : ¬ (c.toNat : Int) = 95 := fun h => h1 (UInt8.toNat_inj.1 (by show c.toNat = 95; omega))
            simpa using this
          have hgt : g = false := by rw [← hg]; exact decide_eq_false (fun h => h1 h.1)
          subst hgt
          clear hg hdn
          go_wp2
          go_meet
          exact ⟨rfl, by repeat (first | exact Drawn0.refl _ | apply Drawn0.step)⟩
      case rest =>
        obtain ⟨rfl, ⟨nd3, rfl⟩⟩ := hcut
        have hx := HXX.out
        cases g with
        | true =>
          rw [if_pos (of_decide_eq_true HG.out)] at hx
          have HX := Aside0.mk hx
          clear hx HXX q5 hdn
          go_wp2
          go_roundg (l.length - (i + 1))
          case measure => have := HKQ.out; omega
          case rel => exact ⟨i + 1, n, far, false, rfl, rfl, rfl, by go_num, ⟨rfl, by omega, hn⟩, HX, by repeat (first | exact Drawn0.refl _ | apply Drawn0.step)⟩
        | false =>
          rw [if_neg (of_decide_eq_false HG.out)] at hx
          have hv := valN_le c
          obtain ⟨v, hvv⟩ : ∃ v, valN c = v := ⟨_, rfl⟩
          rw [hvv] at hx hv
          simp only [hvv]
          by_cases hb : 2 ^ 3 ≤ v
          · rw [if_pos hb] at hx
            have hx2 : X = ([], 12) := hx.symm
            subst hx2
            have e3 : ((8 : Int) ≤ (v : Int)) = True := eq_true (by omega)
            clear hx hb hvv q5 hdn
            go_wp2
            go_ret2
            exact ⟨rfl, Drawn0.below (by repeat (first | exact Drawn0.refl _ | apply Drawn0.step))⟩
          · rw [if_neg hb] at hx
            have e3 : ((8 : Int) ≤ (v : Int)) = False := eq_false (by omega)
            have hvb : v < 8 := by omega
            have HX := Aside0.mk hx
            clear hx hb hvv q5 hdn
            have ho := or_step 3 n v (by decide) (by omega)
            have hr : n * 2 ^ 3 % 18446744073709551616 + v < 18446744073709551616 := by
              have : n * 2 ^ 3 % 18446744073709551616 = 2 ^ 3 * (n % 2 ^ (64 - 3)) := by
                rw [show (18446744073709551616 : Nat) = 2 ^ 3 * 2 ^ (64 - 3) by rfl, Nat.mul_comm n, Nat.mul_mod_mul_left]
              have : n % 2 ^ (64 - 3) < 2 ^ (64 - 3) := Nat.mod_lt _ (by decide)
              have h64 : 2 ^ (64 - 3) = 2305843009213693952 := rfl
              have hsh : 2 ^ 3 = 8 := rfl
              omega
            have HO := Aside0.mk ho
            have HR := Aside0.mk hr
            clear ho hr
            cases far with
            | true =>
              go_wp2
              go_roundg (l.length - (i + 1))
              case measure => have := HKQ.out; omega
              case rel => exact ⟨i + 1, _, true, true, congrArg (Value.int .u64) HO.out, rfl, rfl, by go_num, ⟨rfl, by omega, HR.out⟩, HX, by repeat (first | exact Drawn0.refl _ | apply Drawn0.step)⟩
            | false =>
              go_wp2
              go_roundg (l.length - (i + 1))
              case measure => have := HKQ.out; omega
              case rel => exact ⟨i + 1, _, _, true, congrArg (Value.int .u64) HO.out, congrArg Value.bool (far_step n (2 ^ (63 - 3))), rfl, by go_num, ⟨rfl, by omega, HR.out⟩, HX, by repeat (first | exact Drawn0.refl _ | apply Drawn0.step)⟩
    · have hil : i = l.length := by omega
      have hx := HX.out
      rw [List.drop_eq_nil_of_le (by omega)] at hx
      unfold wrun wholeE at hx
      simp only at hx
      clear HX hil
      cases seen with
      | false =>
        rw [if_pos rfl] at hx
        subst hx
        go_wp2
        go_ret2
        exact ⟨rfl, Drawn0.below (by repeat (first | exact Drawn0.refl _ | apply Drawn0.step))⟩
      | true =>
        rw [if_neg (by decide)] at hx
        cases far with
        | true =>
          rw [if_pos rfl] at hx
          subst hx
          go_wp2
          go_ret2
          exact ⟨rfl, Drawn0.below (by repeat (first | exact Drawn0.refl _ | apply Drawn0.step))⟩
        | false =>
          rw [if_neg (by decide)] at hx
          have HD := Aside0.mk (fun (w : World) (he : Env w) => normal_any (Lib.decDigits n) w (by have := decDigits_le20 n hn; omega) he)
          rw [hx] at HD
          have HBB := Aside0.mk (Below.refl w.heap.size w)
          clear hx
          go_wp2_with (first
            | (go_at_call 36; (with_reducible refine (formatUint_any n hn _ (HE.out.below (bl_drewN HBB.out _) HE.out.size)).mono ?_); rintro e w2 ⟨rfl, hb2⟩)
            | (go_at_call 10; (with_reducible refine (HD.out _ ((HE.out.below (bl_drewN HBB.out _) HE.out.size).below hb2 (Nat.le_trans HE.out.size (by simp)))).mono ?_); rintro e w3 ⟨rfl, hb3⟩))
          go_ret2
          exact ⟨rfl, bl_trans (bl_trans (bl_drewN HBB.out _) hb2) hb3⟩

set_option maxHeartbeats 4000000 in
set_option maxRecDepth 100000 in
theorem whole_16 (l : List UInt8) (w : World) (hl : l.length ≤ 50000) (he : Env w) : Calls Tryz.prog 17 #[.string (B l), .int .i64 16] w fun e w' => e = .returned (.tuple #[.string (B (wholeE (wrun 4 l 0 false false)).1), .int .i64 (wholeE (wrun 4 l 0 false false)).2]) ∧ Below w.heap.size w w' := by
  obtain ⟨X, hX⟩ : ∃ X, wholeE (wrun 4 l 0 false false) = X := ⟨_, rfl⟩
  rw [hX]
  have HX := Aside0.mk hX
  have HE := Aside0.mk he
  have z0 : (B l).size = l.length := rfl
  clear he hX
  go_enter Tryz.func17, Tryz.ntmps17
  go_wp2
  go_loopg [7, 8, 9, 21] (l.length) (fun kq v7 v8 v9 v21 w' => ∃ (i n : Nat) (far seen : Bool), v7 = .int .u64 n ∧ v8 = .bool far ∧ v9 = .bool seen ∧ v21 = .int .i64 i ∧ Aside0 (kq = l.length - i ∧ i ≤ l.length ∧ n < 18446744073709551616) ∧ Aside0 (wholeE (wrun 4 (l.drop i) n far seen) = X) ∧ Drawn0 w w')
  case atStart => exact ⟨0, 0, false, false, rfl, rfl, rfl, rfl, ⟨rfl, Nat.zero_le _, by decide⟩, HX, Drawn0.refl _⟩
  case round =>
    obtain ⟨i, n, far, seen, rfl, rfl, rfl, rfl, HK, HX, ⟨nd, rfl⟩⟩ := hrel
    obtain ⟨hk, hi, hn⟩ := HK.out
    have HKQ := Aside0.mk hk
    clear hk HK
    by_cases hlt : i < l.length
    · have hi2 : i < (B l).size := hlt
      obtain ⟨c, hc⟩ : ∃ c, l[i]? = some c := ⟨l[i], List.getElem?_eq_getElem hlt⟩
      have q5 := idxn l i hi2 c hc
      have hdr : l.drop i = c :: l.drop (i + 1) := by
        rw [List.drop_eq_getElem_cons hlt]
        rw [List.getElem?_eq_getElem hlt] at hc
        injection hc with hc
        rw [hc]
      have hx := HX.out
      rw [hdr] at hx
      have hdn : l.drop (i + 1) = [] ↔ ¬ i + 1 < l.length := by
        rw [List.drop_eq_nil_iff]; omega
      unfold wrun at hx
      clear hc hdr
      obtain ⟨g, hg⟩ : ∃ g, decide (c = 95 ∧ seen = true ∧ l.drop (i + 1) ≠ []) = g := ⟨_, rfl⟩
      have HG := Aside0.mk hg
      have HXX := Aside0.mk hx
      clear hg hx HX
      go_upto_region 16 with (first
        | (go_at_call 35; (with_reducible refine (value_any c _).mono ?_); rintro e w2 ⟨rfl, ⟨nd2, rfl⟩⟩))
      go_cut [28] (fun s28 wx => s28 = .bool g ∧ Drawn0 w wx)
      case first =>
        have hg := HG.out
        by_cases h1 : c = 95
        · have e1 : ((c.toNat : Int) == 95) = true := by subst h1; rfl
          cases seen with
          | true =>
            by_cases h2 : i + 1 < l.length
            · have e2 : ((i : Int) + 1 < (l.length : Int)) = True := eq_true (by omega)
              have hgt : g = true := by rw [← hg]; exact decide_eq_true ⟨h1, rfl, fun h => hdn.1 h h2⟩
              subst hgt
              clear hg h1 hdn
              go_wp2
              go_meet
              exact ⟨rfl, by repeat (first | exact Drawn0.refl _ | apply Drawn0.step)⟩
            · have e2 : ((i : Int) + 1 < (l.length : Int)) = False := eq_false (by omega)
              have hgt : g = false := by rw [← hg]; exact decide_eq_false (fun h => h.2.2 (hdn.2 h2))
              subst hgt
              clear hg h1 hdn
              go_wp2
              go_meet
              exact ⟨rfl, by repeat (first | exact Drawn0.refl _ | apply Drawn0.step)⟩
          | false =>
            have hgt : g = false := by rw [← hg]; exact decide_eq_false (fun h => by cases h.2.1)
            subst hgt
            clear hg h1 hdn
            go_wp2
            go_meet
            exact ⟨rfl, by repeat (first | exact Drawn0.refl _ | apply Drawn0.step)⟩
        · have e1 : ((c.toNat : Int) == 95) = false := by
            have : ¬ (c.toNat : Int) = 95 := fun h => h1 (UInt8.toNat_inj.1 (by show c.toNat = 95; omega))
            simpa using this
          have hgt : g = false := by rw [← hg]; exact decide_eq_false (fun h => h1 h.1)
          subst hgt
          clear hg hdn
          go_wp2
          go_meet
          exact ⟨rfl, by repeat (first | exact Drawn0.refl _ | apply Drawn0.step)⟩
      case rest =>
        obtain ⟨rfl, ⟨nd3, rfl⟩⟩ := hcut
        have hx := HXX.out
        cases g with
        | true =>
          rw [if_pos (of_decide_eq_true HG.out)] at hx
          have HX := Aside0.mk hx
          clear hx HXX q5 hdn
          go_wp2
          go_roundg (l.length - (i + 1))
          case measure => have := HKQ.out; omega
          case rel => exact ⟨i + 1, n, far, false, rfl, rfl, rfl, by go_num, ⟨rfl, by omega, hn⟩, HX, by repeat (first | exact Drawn0.refl _ | apply Drawn0.step)⟩
        | false =>
          rw [if_neg (of_decide_eq_false HG.out)] at hx
          have hv := valN_le c
          obtain ⟨v, hvv⟩ : ∃ v, valN c = v := ⟨_, rfl⟩
          rw [hvv] at hx hv
          simp only [hvv]
          by_cases hb : 2 ^ 4 ≤ v
          · rw [if_pos hb] at hx
            have hx2 : X = ([], 12) := hx.symm
            subst hx2
            have e3 : ((16 : Int) ≤ (v : Int)) = True := eq_true (by omega)
            clear hx hb hvv q5 hdn
            go_wp2
            go_ret2
            exact ⟨rfl, Drawn0.below (by repeat (first | exact Drawn0.refl _ | apply Drawn0.step))⟩
          · rw [if_neg hb] at hx
            have e3 : ((16 : Int) ≤ (v : Int)) = False := eq_false (by omega)
            have hvb : v < 16 := by omega
            have HX := Aside0.mk hx
            clear hx hb hvv q5 hdn
            have ho := or_step 4 n v (by decide) (by omega)
            have hr : n * 2 ^ 4 % 18446744073709551616 + v < 18446744073709551616 := by
              have : n * 2 ^ 4 % 18446744073709551616 = 2 ^ 4 * (n % 2 ^ (64 - 4)) := by
                rw [show (18446744073709551616 : Nat) = 2 ^ 4 * 2 ^ (64 - 4) by rfl, Nat.mul_comm n, Nat.mul_mod_mul_left]
              have : n % 2 ^ (64 - 4) < 2 ^ (64 - 4) := Nat.mod_lt _ (by decide)
              have h64 : 2 ^ (64 - 4) = 1152921504606846976 := rfl
              have hsh : 2 ^ 4 = 16 := rfl
              omega
            have HO := Aside0.mk ho
            have HR := Aside0.mk hr
            clear ho hr
            cases far with
            | true =>
              go_wp2
              go_roundg (l.length - (i + 1))
              case measure => have := HKQ.out; omega
              case rel => exact ⟨i + 1, _, true, true, congrArg (Value.int .u64) HO.out, rfl, rfl, by go_num, ⟨rfl, by omega, HR.out⟩, HX, by repeat (first | exact Drawn0.refl _ | apply Drawn0.step)⟩
            | false =>
              go_wp2
              go_roundg (l.length - (i + 1))
              case measure => have := HKQ.out; omega
              case rel => exact ⟨i + 1, _, _, true, congrArg (Value.int .u64) HO.out, congrArg Value.bool (far_step n (2 ^ (63 - 4))), rfl, by go_num, ⟨rfl, by omega, HR.out⟩, HX, by repeat (first | exact Drawn0.refl _ | apply Drawn0.step)⟩
    · have hil : i = l.length := by omega
      have hx := HX.out
      rw [List.drop_eq_nil_of_le (by omega)] at hx
      unfold wrun wholeE at hx
      simp only at hx
      clear HX hil
      cases seen with
      | false =>
        rw [if_pos rfl] at hx
        subst hx
        go_wp2
        go_ret2
        exact ⟨rfl, Drawn0.below (by repeat (first | exact Drawn0.refl _ | apply Drawn0.step))⟩
      | true =>
        rw [if_neg (by decide)] at hx
        cases far with
        | true =>
          rw [if_pos rfl] at hx
          subst hx
          go_wp2
          go_ret2
          exact ⟨rfl, Drawn0.below (by repeat (first | exact Drawn0.refl _ | apply Drawn0.step))⟩
        | false =>
          rw [if_neg (by decide)] at hx
          have HD := Aside0.mk (fun (w : World) (he : Env w) => normal_any (Lib.decDigits n) w (by have := decDigits_le20 n hn; omega) he)
          rw [hx] at HD
          have HBB := Aside0.mk (Below.refl w.heap.size w)
          clear hx
          go_wp2_with (first
            | (go_at_call 36; (with_reducible refine (formatUint_any n hn _ (HE.out.below (bl_drewN HBB.out _) HE.out.size)).mono ?_); rintro e w2 ⟨rfl, hb2⟩)
            | (go_at_call 10; (with_reducible refine (HD.out _ ((HE.out.below (bl_drewN HBB.out _) HE.out.size).below hb2 (Nat.le_trans HE.out.size (by simp)))).mono ?_); rintro e w3 ⟨rfl, hb3⟩))
          go_ret2
          exact ⟨rfl, bl_trans (bl_trans (bl_drewN HBB.out _) hb2) hb3⟩

set_option maxRecDepth 100000 in
theorem whole_any (l : List UInt8) (base : Int) (w : World) (hl : l.length ≤ 50000) (he : Env w) : Calls Tryz.prog 17 #[.string (B l), .int .i64 base] w fun e w' => e = .returned (.tuple #[.string (B (wholeL l base).1), .int .i64 (wholeL l base).2]) ∧ Below w.heap.size w w' := by
  unfold wholeL
  by_cases h2 : base = 2
  · subst h2; rw [if_pos rfl]; exact whole_2 l w hl he
  by_cases h8 : base = 8
  · subst h8; rw [if_neg (by decide), if_pos rfl]; exact whole_8 l w hl he
  by_cases h16 : base = 16
  · subst h16; rw [if_neg (by decide), if_neg (by decide), if_pos rfl]; exact whole_16 l w hl he
  rw [if_neg h2, if_neg h8, if_neg h16]
  have q2 : (base == 2) = false := by simpa using h2
  have q8 : (base == 8) = false := by simpa using h8
  have q16 : (base == 16) = false := by simpa using h16
  clear h2 h8 h16
  go_enter Tryz.func17, Tryz.ntmps17
  go_wp2
  go_ret2
  exact ⟨rfl, Below.refl _ _⟩
end Go.Proofs.YtjaongknagmfiaaGreatDoor
