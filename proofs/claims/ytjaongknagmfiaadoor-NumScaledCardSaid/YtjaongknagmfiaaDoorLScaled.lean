/-
  NumScaled is true: the plain law over the printed functions.
-/
import Derived.Test.YtjaongknagmfiaaDoorPSx
import Derived.Test.YtjaongknagmfiaaDoorIntp
import Derived.Test.YtjaongknagmfiaaDoorNr
import Derived.Test.YtjaongknagmfiaaDoorNm
set_option linter.unusedSimpArgs false
set_option linter.unusedVariables false
namespace Go.Proofs.YtjaongknagmfiaaDoor
open Go.RowKit Go.Proofs.YtjaongknagmfiaaDoorW.PrintWords Go.Proofs.YtjaongknagmfiaaDoor.PS

theorem digits_s : ∀ (n : Nat), n ≤ 9223372036854775807 → emendref2_Digits.f 100 (n : Int) = some (B (Lib.decDigits n)) := by
  have hl1 : ∀ (k : Nat) x y z, emendref2_Digits.l1 k x y z = Go.Proofs.YtjaongknagmfiaaDoor.PT.emendref2_Digits.l1 k x y z := by
    intro k
    induction k with
    | zero => intro x y z; rfl
    | succ k ih => intro x y z; simp only [emendref2_Digits.l1, Go.Proofs.YtjaongknagmfiaaDoor.PT.emendref2_Digits.l1, ih]
  have hl0 : ∀ (k : Nat) x y, emendref2_Digits.l0 k x y = Go.Proofs.YtjaongknagmfiaaDoor.PT.emendref2_Digits.l0 k x y := by
    intro k
    induction k with
    | zero => intro x y; rfl
    | succ k ih => intro x y; simp only [emendref2_Digits.l0, Go.Proofs.YtjaongknagmfiaaDoor.PT.emendref2_Digits.l0, ih, hl1]
  intro n h
  have := digits_f n h
  unfold Go.Proofs.YtjaongknagmfiaaDoor.PT.emendref2_Digits.f at this
  unfold emendref2_Digits.f
  rw [hl0]
  exact this
theorem signed_app (n : Bool) (a b : List UInt8) : signed n a ++ b = signed n (a ++ b) := by cases n <;> rfl
theorem scaled_lit (x : Int) (p : Nat) (c : UInt8) (e : Int) : ((((B (Lib.itoa x) ++ (⟨#[46]⟩ : ByteArray)) ++ B (Lib.decDigits p)) ++ (⟨#[c]⟩ : ByteArray)) ++ B (Lib.itoa e)) = B (lit (decide (x < 0)) (Lib.decDigits x.natAbs) (Lib.decDigits p) (some (c, e))) := by
  have e1 : B (Lib.itoa x) ++ (⟨#[46]⟩ : ByteArray) = B (Lib.itoa x ++ [46]) := B_app _ [46]
  have e2 : B (Lib.itoa x ++ [46] ++ Lib.decDigits p) ++ (⟨#[c]⟩ : ByteArray) = B (Lib.itoa x ++ [46] ++ Lib.decDigits p ++ [c]) := B_app _ [c]
  rw [e1, B_app, e2, B_app]
  congr 1
  rw [itoa_lit x]
  have hp : Lib.decDigits p ≠ [] := fun k => by have := dd_pos p; rw [k] at this; simp at this
  unfold lit expS
  simp only [if_true, List.append_nil, hp, if_false, signed_app]
  congr 1
  simp
/-- What both literals have in common. -/
theorem scaled_split (x : Int) (p : Nat) (hx : -9223372036854775808 ≤ x ∧ x ≤ 9223372036854775807) (hp : p ≤ 9223372036854775807) :
    ∃ (t : List UInt8) (M : Int), (-2000 ≤ M ∧ M ≤ 2000) ∧ ∀ (c : UInt8) (e : Int), (c = 101 ∨ c = 69) → (-2000 ≤ e ∧ e ≤ 2000) →
      splitL (lit (decide (x < 0)) (Lib.decDigits x.natAbs) (Lib.decDigits p) (some (c, e))) = if t = [] then ((false, [], 0), 0) else ((decide (x < 0), t, e + M), 0) := by
  have hw : (Lib.decDigits x.natAbs).length ≤ 20 := by
    by_cases h : x = 0
    · subst h; rw [show (0 : Int).natAbs = 0 from rfl, Lib.decDigits_one (by decide)]; simp
    · exact int_bounds x hx h
  have hpl : (Lib.decDigits p).length ≤ 20 := decDigits_le20 p (by omega)
  have hp0 := dd_pos p
  have hD : ((Lib.decDigits x.natAbs ++ Lib.decDigits p).dropWhile (· == 48)).length ≤ 40 := by
    have := (List.dropWhile_sublist (· == 48) (l := Lib.decDigits x.natAbs ++ Lib.decDigits p)).length_le
    rw [List.length_append] at this; omega
  obtain ⟨m, hm⟩ := trimE_split ((Lib.decDigits x.natAbs ++ Lib.decDigits p).dropWhile (· == 48))
  have hml := congrArg List.length hm
  rw [List.length_append, List.length_replicate] at hml
  refine ⟨trimE 48 ((Lib.decDigits x.natAbs ++ Lib.decDigits p).dropWhile (· == 48)), -((Lib.decDigits p).length : Int) + ((((Lib.decDigits x.natAbs ++ Lib.decDigits p).dropWhile (· == 48)).length : Int) - (trimE 48 ((Lib.decDigits x.natAbs ++ Lib.decDigits p).dropWhile (· == 48))).length), by omega, ?_⟩
  intro c e hc he
  have hel := Lib.itoa_length_le e (by omega) (by omega)
  have hlen : (lit (decide (x < 0)) (Lib.decDigits x.natAbs) (Lib.decDigits p) (some (c, e))).length ≤ 1000 := by
    unfold lit signed expS
    have h1 : ∀ l : List UInt8, l.length ≤ 900 → (if decide (x < 0) = true then 45 :: l else l).length ≤ 1000 := by
      intro l hl
      split
      · rw [List.length_cons]; omega
      · omega
    apply h1
    have hp1 : Lib.decDigits p ≠ [] := fun k => by rw [k] at hp0; simp at hp0
    rw [if_neg hp1]
    simp only [List.length_append, List.length_cons]
    omega
  rw [splitL_lit _ _ _ (some (c, e)) (dd_isD _) (dd_isD _) (dd_pos _) (by
      by_cases h : x = 0
      · left; subst h; rw [show (0 : Int).natAbs = 0 from rfl, Lib.decDigits_one (by decide)]; rfl
      · right; exact dd_head _ (by omega)) ⟨hc, by omega⟩ hlen]
  by_cases h0 : trimE 48 ((Lib.decDigits x.natAbs ++ Lib.decDigits p).dropWhile (· == 48)) = []
  · rw [if_pos h0, if_pos h0]
  · rw [if_neg h0, if_neg h0]
    simp only [expVal]
    congr 3
    omega
theorem tmod_b (x : Int) : -999 ≤ Int.tmod x 1000 ∧ Int.tmod x 1000 ≤ 999 := by
  by_cases h0 : 0 ≤ x
  · rw [Int.tmod_eq_emod_of_nonneg h0]; omega
  · obtain ⟨m, rfl⟩ : ∃ m, x = -m := ⟨-x, by omega⟩
    rw [Int.neg_tmod, Int.tmod_eq_emod_of_nonneg (by omega)]; omega
theorem scaled_j1 (j : Nat) (n : Bool) (t : List UInt8) (e k M : Int) (h1 : -1000 ≤ e ∧ e ≤ 1000) (h2 : -1000 ≤ k ∧ k ≤ 1000) (h3 : -2000 ≤ M ∧ M ≤ 2000) :
    emendlaw2_NumScaled.j1 (j + 1) k false (if t = [] then ((false, [], 0), (0 : Int)) else ((n, t, e + M), 0)).1.1 (B (if t = [] then ((false, [], 0), (0 : Int)) else ((n, t, e + M), 0)).1.2.1) (if t = [] then ((false, [], 0), (0 : Int)) else ((n, t, e + M), 0)).1.2.2
      (if t = [] then ((false, [], 0), (0 : Int)) else ((n, t, e + k + M), 0)).1.1 (B (if t = [] then ((false, [], 0), (0 : Int)) else ((n, t, e + k + M), 0)).1.2.1) (if t = [] then ((false, [], 0), (0 : Int)) else ((n, t, e + k + M), 0)).1.2.2 = some true := by
  rw [emendlaw2_NumScaled.j1, if_neg (by decide)]
  by_cases h : t = []
  · rw [if_pos h, if_pos h]
    rw [if_pos (by rw [B_list]), if_pos (by simp)]
    rfl
  · rw [if_neg h, if_neg h]
    rw [if_neg (by rw [B_list]; exact h), if_pos]
    · rfl
    · rw [show wrap64 (e + M + k) = e + k + M by unfold wrap64; omega]
      simp
theorem scaled_j0 (x : Int) (p : Nat) (x2 x3 : Int) (hx : -9223372036854775808 ≤ x ∧ x ≤ 9223372036854775807) (hp : p ≤ 9223372036854775807) : emendlaw2_NumScaled.j0 101 x (p : Int) x2 x3 = some true := by
  have b2 := tmod_b x2
  have b3 := tmod_b x3
  obtain ⟨t, M, hM, hS⟩ := scaled_split x p hx hp
  have hxl := Lib.itoa_length_le x hx.1 hx.2
  have hpl : (Lib.decDigits p).length ≤ 20 := decDigits_le20 p (by omega)
  rw [emendlaw2_NumScaled.j0]
  unfold emendref2_Decimal.f num_Split.f
  generalize Int.tmod x2 1000 = e at *
  generalize Int.tmod x3 1000 = k at *
  have hel := Lib.itoa_length_le e (by omega) (by omega)
  have hel2 := Lib.itoa_length_le (e + k) (by omega) (by omega)
  have hlen : ∀ c e, (Lib.itoa e).length ≤ 21 → (lit (decide (x < 0)) (Lib.decDigits x.natAbs) (Lib.decDigits p) (some (c, e))).length ≤ 100 := by
    intro c e he
    have := congrArg ByteArray.size (scaled_lit x p c e)
    simp only [ByteArray.size_append, B_size] at this
    rw [← this]
    have q1 : (⟨#[46]⟩ : ByteArray).size = 1 := rfl
    have q2 : (⟨#[c]⟩ : ByteArray).size = 1 := rfl
    omega
  have z1 : (⟨#[46]⟩ : ByteArray).size = 1 := rfl
  have z2 : (⟨#[101]⟩ : ByteArray).size = 1 := rfl
  have z3 : (⟨#[69]⟩ : ByteArray).size = 1 := rfl
  rw [if_pos hx, Option.bind_some, if_pos (by rw [B_size]; omega), digits_s p hp, Option.bind_some, if_pos (by rw [ByteArray.size_append, B_size, B_size, z1]; omega), if_pos (by rw [ByteArray.size_append, ByteArray.size_append, B_size, B_size, z1]; omega), if_pos (by omega), Option.bind_some,
    if_pos (by rw [ByteArray.size_append, ByteArray.size_append, ByteArray.size_append, B_size, B_size, B_size, z1, z2]; omega), scaled_lit, if_pos (by rw [B_size]; have := hlen 101 e hel; omega), Option.bind_some, show wrap64 (e + k) = e + k by unfold wrap64; omega, if_pos (by omega), Option.bind_some,
    if_pos (by rw [ByteArray.size_append, ByteArray.size_append, ByteArray.size_append, B_size, B_size, B_size, z1, z3]; omega), scaled_lit, if_pos (by rw [B_size]; have := hlen 69 (e + k) hel2; omega), Option.bind_some, B_data, B_data, hS 101 e (.inl rfl) (by omega), hS 69 (e + k) (.inr rfl) (by omega)]
  simp only
  have e1 : ∀ (a : Bool × List UInt8 × Int), (if t = [] then ((false, [], 0), (0 : Int)) else (a, 0)).2 = 0 := fun a => by split <;> rfl
  rw [e1, if_pos rfl, e1]
  exact scaled_j1 99 (decide (x < 0)) t e k M (by omega) (by omega) hM
theorem numScaled_f (x p e k : Int) (hx : -9223372036854775808 ≤ x ∧ x ≤ 9223372036854775807) (hp : -9223372036854775808 ≤ p ∧ p ≤ 9223372036854775807) : emendlaw2_NumScaled.f 101 x p e k = some true := by
  unfold emendlaw2_NumScaled.f
  by_cases h : p < 0
  · rw [if_pos h]
    obtain ⟨m, hm⟩ : ∃ m : Nat, -1 - p = m := ⟨(-1 - p).toNat, by omega⟩
    rw [hm, show wrap64 (m : Int) = (m : Int) by unfold wrap64; omega]
    exact scaled_j0 x m e k hx (by omega)
  · rw [if_neg h]
    obtain ⟨m, rfl⟩ : ∃ m : Nat, p = m := ⟨p.toNat, by omega⟩
    exact scaled_j0 x m e k hx (by omega)
theorem numScaled_true (x p e k : Int) (w : World) (he : Env w) (hx : -9223372036854775808 ≤ x ∧ x ≤ 9223372036854775807) (hp : -9223372036854775808 ≤ p ∧ p ≤ 9223372036854775807) (h3 : -9223372036854775808 ≤ e ∧ e ≤ 9223372036854775807) (h4 : -9223372036854775808 ≤ k ∧ k ≤ 9223372036854775807) :
    Calls Tryd.prog 9 #[.int .i64 x, .int .i64 p, .int .i64 e, .int .i64 k] w fun e w' => e = .returned (.bool true) ∧ Below w.heap.size w w' :=
  emendlaw2_NumScaled.calls 101 x p e k true w he (numScaled_f x p e k hx hp)
end Go.Proofs.YtjaongknagmfiaaDoor
