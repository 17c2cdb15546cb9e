/-
  The reference's Digits and Decimal: an int's decimal digits.
-/
import Derived.Test.YtjaongknagmfiaaGreatDoorNf
set_option linter.unusedSimpArgs false
set_option linter.unusedVariables false
namespace Go.Proofs.YtjaongknagmfiaaGreatDoor
open Go.RowKit Go.Proofs.YtjaongknagmfiaaGreatDoorW.PrintWords Go.Proofs.YtjaongknagmfiaaGreatDoor.PT

theorem bytesLess_gtr : ∀ x y : List UInt8, (!(Op.bytesLess x y || x == y)) = Op.bytesLess y x := by
  intro x
  induction x with
  | nil => intro y; cases y <;> simp [Op.bytesLess]
  | cons a x ih =>
    intro y
    cases y with
    | nil => simp [Op.bytesLess]
    | cons b y =>
      have h1 := ih y
      simp only [Op.bytesLess]
      have l1 : ∀ a b : UInt8, (a < b) ↔ a.toNat < b.toNat := fun a b => UInt8.lt_iff_toNat_lt
      by_cases h2 : a.toNat < b.toNat
      · have e1 : decide (a < b) = true := decide_eq_true ((l1 a b).2 h2)
        have e2 : decide (b < a) = false := decide_eq_false (fun k => by have := (l1 b a).1 k; omega)
        have e3 : (b == a) = false := beq_eq_false_iff_ne.2 (fun k => by subst k; omega)
        rw [e1, e2, e3]; rfl
      · by_cases h3 : b.toNat < a.toNat
        · have e1 : decide (b < a) = true := decide_eq_true ((l1 b a).2 h3)
          have e2 : decide (a < b) = false := decide_eq_false (fun k => h2 ((l1 a b).1 k))
          have e3 : (a == b) = false := beq_eq_false_iff_ne.2 (fun k => by subst k; omega)
          have e4 : ((a :: x) == (b :: y)) = false := beq_eq_false_iff_ne.2 (fun k => by injection k with k; subst k; omega)
          rw [e1, e2, e3, e4]; rfl
        · have e : a = b := UInt8.toNat_inj.1 (by omega)
          subst e
          have e1 : decide (a < a) = false := decide_eq_false (fun k => h2 ((l1 a a).1 k))
          have e2 : ((a :: x) == (a :: y)) = (x == y) := by simp
          rw [e1, e2]
          simp only [Bool.false_or, beq_self_eq_true, Bool.true_and]
          exact h1
/-- '>' of strings, for the walk. -/
theorem run_str_gtr (P : Program) (t : TypeId) (a b : ByteArray) (w : World) : (binOp .gtr t (.string a) (.string b)).run P w = .ok (.bool (Op.bytesLess b.toList a.toList)) w := by
  have h : Op.stringOp .gtr a b = pure (.bool (Op.bytesLess b.toList a.toList)) := by
    rw [← bytesLess_gtr]; rfl
  show (Op.stringOp .gtr a b).run P w = _
  rw [h]; rfl
theorem wrap64_drop {n : Int} (h0 : -9223372036854775808 ≤ n) (h1 : n ≤ 9223372036854775807) : wrap64 n = n := by unfold wrap64; omega
theorem ext_head (b : ByteArray) (n : Nat) (h : n ≤ b.size) : (b.extract 0 n).size = n := by rw [ByteArray.size_extract]; omega
theorem ext_tail (b : ByteArray) (n : Nat) : (b.extract n b.size).size = b.size - n := by rw [ByteArray.size_extract]; omega
abbrev I8 (l : List UInt8) : List Int := l.map fun x => (x.toNat : Int)
theorem rd_I8 (l : List UInt8) (j : Nat) (h : j < l.length) : rd (I8 l) (j : Int) = (l[j].toNat : Int) := by
  unfold rd
  simp [h]
theorem digits_l1 (xs : List UInt8) (hx : xs.length ≤ 1000) : ∀ (j k : Nat) (acc : List UInt8), j ≤ xs.length → j < k → acc.length + j ≤ 1000 → emendref2_Digits.l1 k (I8 xs) (I8 acc) ((j : Int) - 1) = some (B (acc ++ (xs.take j).reverse)) := by
  intro j
  induction j with
  | zero =>
    intro k acc _ hk _
    obtain ⟨k, rfl⟩ : ∃ m, k = m + 1 := ⟨k - 1, by omega⟩
    simp only [emendref2_Digits.l1]
    rw [if_neg (by omega), strOfNums_B]
    simp
  | succ j ih =>
    intro k acc hj hk hl
    obtain ⟨k, rfl⟩ : ∃ m, k = m + 1 := ⟨k - 1, by omega⟩
    have e : (((j + 1 : Nat) : Int) - 1) = (j : Int) := by omega
    rw [e]
    simp only [emendref2_Digits.l1]
    rw [if_pos (by omega), if_pos (by omega), if_pos (by rw [List.length_map]; omega), if_pos (by rw [List.length_map]; omega), rd_I8 xs j (by omega), wrap64_id (by omega) (by omega)]
    have e2 : I8 acc ++ [(xs[j].toNat : Int)] = I8 (acc ++ [xs[j]]) := by simp [I8]
    rw [e2, ih k (acc ++ [xs[j]]) (by omega) (by omega) (by simp; omega)]
    congr 2
    rw [List.take_succ_eq_append_getElem (by omega), List.reverse_append]
    simp
theorem dig_toNat (n : Nat) (h : n < 10) : (UInt8.ofNat (48 + n)).toNat = 48 + n := by
  rw [UInt8.toNat_ofNat_of_lt']; show 48 + n < 256; omega
theorem digits_l0 : ∀ (n k : Nat) (acc : List UInt8), n ≤ 9223372036854775807 → acc.length + Lib.nDigits n ≤ 900 → 2 * Lib.nDigits n + acc.length < k → emendref2_Digits.l0 k (n : Int) (I8 acc) = some (B (Lib.decDigits n ++ acc.reverse)) := by
  intro n
  induction n using Nat.strongRecOn with
  | _ n ih =>
    intro k acc hn hl hk
    obtain ⟨k, rfl⟩ : ∃ m, k = m + 1 := ⟨k - 1, by omega⟩
    simp only [emendref2_Digits.l0]
    have hm : Int.tmod (n : Int) 10 = ((n % 10 : Nat) : Int) := by rw [Int.tmod_eq_emod_of_nonneg (by omega)]; omega
    have hd : Int.tdiv (n : Int) 10 = ((n / 10 : Nat) : Int) := by rw [Int.tdiv_eq_ediv_of_nonneg (by omega)]; omega
    by_cases h9 : n > 9
    · have hnd := Lib.nDigits_big (u := n) (by omega)
      rw [if_pos (by omega), if_pos (by rw [List.length_map]; omega), hm, hd, wrap64_id (by omega) (by omega), wrap64_id (by omega) (by omega)]
      have e : (48 + ((n % 10 : Nat) : Int)) % 256 = ((UInt8.ofNat (48 + n % 10)).toNat : Int) := by rw [dig_toNat _ (by omega)]; omega
      have e2 : I8 acc ++ [(48 + ((n % 10 : Nat) : Int)) % 256] = I8 (acc ++ [UInt8.ofNat (48 + n % 10)]) := by rw [e]; simp [I8]
      rw [e2, ih (n / 10) (by omega) k _ (by omega) (by simp; omega) (by simp; omega)]
      congr 2
      rw [Lib.decDigits.eq_1 n, dif_neg (by omega)]
      simp
    · have hnd := Lib.nDigits_small (u := n) (by omega)
      rw [if_neg (by omega), if_pos (by rw [List.length_map]; omega), Option.bind_some, if_pos (by omega), wrap64_id (n := 48 + (n : Int)) (by omega) (by omega)]
      have e : (48 + (n : Int)) % 256 = ((UInt8.ofNat (48 + n)).toNat : Int) := by rw [dig_toNat _ (by omega)]; omega
      have e2 : I8 acc ++ [(48 + (n : Int)) % 256] = I8 (acc ++ [UInt8.ofNat (48 + n)]) := by rw [e]; simp [I8]
      rw [e2, List.length_map, wrap64_id (by rw [List.length_append]; omega) (by rw [List.length_append]; simp only [List.length_singleton]; omega)]
      have h1 := digits_l1 (acc ++ [UInt8.ofNat (48 + n)]) (by simp; omega) (acc ++ [UInt8.ofNat (48 + n)]).length k [] (Nat.le_refl _) (by simp; omega) (by simp; omega)
      have e3 : (List.replicate 0 (0 : Int)) = I8 [] := rfl
      rw [e3, h1, List.take_length, Lib.decDigits_one (by omega)]
      simp
theorem digits_f (n : Nat) (h : n ≤ 9223372036854775807) : emendref2_Digits.f 100 (n : Int) = some (B (Lib.decDigits n)) := by
  unfold emendref2_Digits.f
  rw [if_pos (by omega)]
  have hnd : Lib.nDigits n ≤ 20 := by
    by_cases h1 : 1 ≤ n
    · have := Lib.numDigits_eq n h1 (by omega); split at this <;> omega
    · obtain rfl : n = 0 := by omega
      rw [Lib.nDigits_small (by decide)]; decide
  have := digits_l0 n 100 [] h (by simp; omega) (by simp; omega)
  rw [List.reverse_nil, List.append_nil] at this
  exact this
theorem digits_any (n : Nat) (h : n ≤ 9223372036854775807) (w : World) : Calls Tryz.prog 38 #[.int .i64 n] w fun e w' => e = .returned (.string (B (Lib.decDigits n))) ∧ Below w.heap.size w w' :=
  emendref2_Digits.calls 100 n _ w (digits_f n h)
set_option maxHeartbeats 4000000 in
set_option maxRecDepth 100000 in
theorem decimal_any (x : Int) (h0 : -9223372036854775808 ≤ x) (h1 : x ≤ 9223372036854775807) (w : World) : Calls Tryz.prog 52 #[.int .i64 x] w fun e w' => e = .returned (.string (B (Lib.itoa x))) ∧ Below w.heap.size w w' := by
  by_cases hx : 0 ≤ x
  · obtain ⟨n, rfl⟩ : ∃ n : Nat, x = n := ⟨x.toNat, by omega⟩
    rw [Lib.itoa_nonneg]
    have hn : n ≤ 9223372036854775807 := by omega
    go_enter Tryz.func52, Tryz.ntmps52
    go_wp2_with (first
      | (go_at_call 38; (with_reducible refine (digits_any n hn _).mono ?_); rintro e w1 ⟨rfl, hb1⟩))
    go_ret
    exact ⟨rfl, hb1⟩
  · obtain ⟨u, rfl⟩ : ∃ u : Nat, x = -(u : Int) := ⟨x.natAbs, by omega⟩
    have hu1 : 1 ≤ u := by omega
    have hu : u ≤ 9223372036854775808 := by omega
    rw [Lib.itoa_neg u hu1]
    have e1 : IntKind.u64.wrap (-IntKind.u64.wrap (-(u : Int))) = (u : Int) := by rw [IntKind.wrap_u64, IntKind.wrap_u64]; omega
    have hdl : (Lib.decDigits u).length ≤ 20 := by
      rw [Lib.decDigits_length]
      have := Lib.numDigits_eq u hu1 (by omega); split at this <;> omega
    by_cases h10 : u < 10
    · have q1 : ((10 : Int) ≤ (u : Int)) = False := eq_false (by omega)
      have e2 : Int.tmod (u : Int) 10 = (u : Int) := by rw [Int.tmod_eq_emod_of_nonneg (by omega)]; omega
      have x1 : (⟨#[45]⟩ : ByteArray) ++ B (Lib.decDigits u) = B (45 :: Lib.decDigits u) := B_app [45] _
      have x2 : (9223372036854775807 < 1 + (B (Lib.decDigits u)).size) = False := eq_false (by rw [B_size]; omega)
      have x3 : (1 + (B (Lib.decDigits u)).size ≤ 9223372036854775807) = True := eq_true (by rw [B_size]; omega)
      clear hx
      go_enter Tryz.func52, Tryz.ntmps52
      go_wp2_with (first
        | (go_at_call 38; (with_reducible refine (digits_any u (by omega) _).mono ?_); rintro e w1 ⟨rfl, hb1⟩))
      go_ret
      exact ⟨rfl, hb1⟩
    · have q1 : ((10 : Int) ≤ (u : Int)) = True := eq_true (by omega)
      have e2 : Int.tmod (u : Int) 10 = ((u % 10 : Nat) : Int) := by rw [Int.tmod_eq_emod_of_nonneg (by omega)]; omega
      have e3 : Int.tdiv (u : Int) 10 = ((u / 10 : Nat) : Int) := by rw [Int.tdiv_eq_ediv_of_nonneg (by omega)]; omega
      have hsplit : Lib.decDigits u = Lib.decDigits (u / 10) ++ Lib.decDigits (u % 10) := by
        rw [Lib.decDigits.eq_1 u, dif_neg h10, Lib.decDigits_one (i := u % 10) (by omega)]
      rw [hsplit] at hdl ⊢
      obtain ⟨v, hv⟩ : ∃ v, u / 10 = v := ⟨_, rfl⟩
      obtain ⟨r, hr⟩ : ∃ r, u % 10 = r := ⟨_, rfl⟩
      have e4 : (u : Int) / 10 = (v : Int) := by omega
      have e5 : (u : Int) % 10 = (r : Int) := by omega
      have hvb : v ≤ 9223372036854775807 := by omega
      have hrb : r < 10 := by omega
      rw [hv] at hdl ⊢ e3
      rw [hr] at hdl ⊢ e2
      rw [List.length_append] at hdl
      have x0 : B (Lib.decDigits v) ++ B (Lib.decDigits r) = B (Lib.decDigits v ++ Lib.decDigits r) := B_app _ _
      have x1 : (⟨#[45]⟩ : ByteArray) ++ B (Lib.decDigits v ++ Lib.decDigits r) = B (45 :: (Lib.decDigits v ++ Lib.decDigits r)) := B_app [45] _
      have x2 : (9223372036854775807 < (B (Lib.decDigits v)).size + (B (Lib.decDigits r)).size) = False := eq_false (by rw [B_size, B_size]; omega)
      have x3 : (9223372036854775807 < 1 + (B (Lib.decDigits v ++ Lib.decDigits r)).size) = False := eq_false (by rw [B_size, List.length_append]; omega)
      clear hx hsplit hv hr
      go_enter Tryz.func52, Tryz.ntmps52
      go_wp2_with (first
        | (go_at_call 38; (with_reducible refine (digits_any r (by omega) _).mono ?_); rintro e w1 ⟨rfl, hb1⟩)
        | (go_at_call 38; (with_reducible refine (digits_any v hvb _).mono ?_); rintro e w2 ⟨rfl, hb2⟩))
      go_ret
      exact ⟨rfl, bl_trans hb1 hb2⟩
end Go.Proofs.YtjaongknagmfiaaGreatDoor
