/-
  num.exponent, walked.
-/
import Derived.Test.YtjaongknagmfiaaGreatDoorNb
import Derived.Test.YtjaongknagmfiaaGreatDoorNe
import Derived.Lib.AtoiErrMem
set_option linter.unusedSimpArgs false
set_option linter.unusedVariables false
namespace Go.Proofs.YtjaongknagmfiaaGreatDoor
open Go.RowKit Go.Proofs.YtjaongknagmfiaaGreatDoorW.PrintWords Go.Proofs.YtjaongknagmfiaaGreatDoor.PT

/-- The number that digits spell. -/
def decVal (acc : Nat) (l : List UInt8) : Nat := l.foldl (fun a c => a * 10 + (c.toNat - 48)) acc
theorem decFrom_val : ∀ (l : List UInt8) (acc : Nat), (∀ c ∈ l, isD c = true) → Lib.decFrom acc l = some (decVal acc l) := by
  intro l
  induction l with
  | nil => intro acc _; rfl
  | cons c l ih =>
    intro acc h
    rw [Lib.decFrom, isD_digitVal c (h c List.mem_cons_self)]
    exact ih _ (fun x hx => h x (List.mem_cons_of_mem _ hx))
theorem atoi_val (l : List UInt8) (h : ∀ c ∈ l, isD c = true) : Lib.atoi (48 :: l) = some ((decVal 0 l : Nat) : Int) := by
  have h1 : Lib.decFrom 0 (48 :: l) = some (decVal 0 l) := by
    rw [decFrom_val (48 :: l) 0 (by intro c hc; rcases List.mem_cons.1 hc with rfl | hc; rfl; exact h c hc)]
    rfl
  show (Lib.decNat (48 :: l)).map (fun (m : Nat) => (m : Int)) = _
  unfold Lib.decNat
  rw [if_neg (by simp), h1]
  rfl
theorem decVal_lt (l : List UInt8) (h : ∀ c ∈ l, isD c = true) : ∀ acc, decVal acc l < (acc + 1) * 10 ^ l.length := by
  induction l with
  | nil => intro acc; simp [decVal]
  | cons c l ih =>
    intro acc
    have hc := h c List.mem_cons_self
    have h9 : c.toNat - 48 ≤ 9 := by unfold isD at hc; simp at hc; omega
    have := ih (fun x hx => h x (List.mem_cons_of_mem _ hx)) (acc * 10 + (c.toNat - 48))
    show decVal (acc * 10 + (c.toNat - 48)) l < _
    refine Nat.lt_of_lt_of_le this ?_
    rw [List.length_cons, Nat.pow_succ, Nat.mul_comm (10 ^ l.length) 10, ← Nat.mul_assoc]
    exact Nat.mul_le_mul_right _ (by omega)
/-- An exponent's digits: what stands behind its sign. -/
def expD (r : List UInt8) : List UInt8 := if r.head? = some 45 ∨ r.head? = some 43 then r.tail else r
/-- An exponent's number; none: it has too many digits. -/
def expN (r : List UInt8) : Option Int :=
  if 6 < ((expD r).dropWhile (· == 48)).length then none else some (if (r.head? == some 45) = true then -((decVal 0 ((expD r).dropWhile (· == 48)) : Nat) : Int) else ((decVal 0 ((expD r).dropWhile (· == 48)) : Nat) : Int))
def expV : Option Int → Array Value
  | none => #[.int .i64 0, .bool false]
  | some x => #[.int .i64 x, .bool true]
theorem isD_not (c : UInt8) (h : isD c = true) : ([43, 45] : List UInt8).contains c = false := by
  have h1 : c ≠ 43 := by rintro rfl; exact absurd h (by decide)
  have h2 : c ≠ 45 := by rintro rfl; exact absurd h (by decide)
  simp [h1, h2]
theorem trim_sign (r : List UInt8) (h : ∀ c ∈ expD r, isD c = true) : Lib.trimLeftS r [43, 45] = expD r := by
  unfold Lib.trimLeftS
  have hd : ∀ l : List UInt8, (∀ c ∈ l, isD c = true) → l.dropWhile (([43, 45] : List UInt8).contains ·) = l := by
    intro l hl
    cases l with
    | nil => rfl
    | cons c l => rw [List.dropWhile_cons, isD_not c (hl c List.mem_cons_self)]; rfl
  cases r with
  | nil => rfl
  | cons c r =>
    by_cases hc : c = 45 ∨ c = 43
    · have he : expD (c :: r) = r := by unfold expD; rw [if_pos (by simpa using hc)]; rfl
      rw [he] at h ⊢
      rw [List.dropWhile_cons, if_pos (by rcases hc with rfl | rfl <;> decide)]
      exact hd r h
    · have he : expD (c :: r) = c :: r := by unfold expD; rw [if_neg (by simpa using hc)]
      rw [he] at h ⊢
      exact hd _ h
theorem tl_set (l : List UInt8) (w : World) : Calls Tryz.prog 21 #[.string (B l), .string ⟨#[43, 45]⟩] w fun e w' => e = .returned (.string (B (Lib.trimLeftS l [43, 45]))) ∧ Below w.heap.size w w' :=
  Any.strings_TrimLeft_laid Tryz.lays161 (by kernel_rfl) (B l) ⟨#[43, 45]⟩ w (by decide) (by intro j b hb; have : b ∈ ([43, 45] : List UInt8) := List.mem_of_getElem? hb; simp at this; rcases this with rfl | rfl <;> decide)
theorem tl_one (l : List UInt8) (w : World) : Calls Tryz.prog 21 #[.string (B l), .string ⟨#[48]⟩] w fun e w' => e = .returned (.string (B (l.dropWhile (· == 48)))) ∧ w' = w :=
  Tryz.strings_TrimLeft_one (B l) 48 (by decide) w
theorem atoi_any (l : List UInt8) (h : ∀ c ∈ l, isD c = true) (hl : l.length ≤ 6) (w : World) : Calls Tryz.prog 42 #[.string (B (48 :: l))] w fun e w' => e = .returned (.tuple #[.int .i64 (decVal 0 l : Nat), .nilIface]) ∧ Below w.heap.size w w' :=
  (Tryz.strconv_Atoi (B (48 :: l)) _ (by rw [B_size, List.length_cons]; omega) (atoi_val l h) w).mono fun e w' ⟨he, t, hw⟩ => ⟨he, by subst hw; exact Lib.bytesWorld_below _ _ _⟩

set_option maxHeartbeats 4000000 in
set_option maxRecDepth 100000 in
theorem exponent_any (r : List UInt8) (w : World) (h : ∀ c ∈ expD r, isD c = true) (hl : r.length ≤ 100000) : Calls Tryz.prog 20 #[.string (B r)] w fun e w' => e = .returned (.tuple (expV (expN r))) ∧ Below w.heap.size w w' := by
  obtain ⟨neg, hneg⟩ : ∃ b, (r.head? == some 45) = b := ⟨_, rfl⟩
  obtain ⟨z, hz⟩ : ∃ z, (expD r).dropWhile (· == 48) = z := ⟨_, rfl⟩
  have hzd : ∀ c ∈ z, isD c = true := by rw [← hz]; exact fun c hc => h c ((List.dropWhile_sublist _).subset hc)
  obtain ⟨X, hX⟩ : ∃ X, expN r = X := ⟨_, rfl⟩
  have hT := trim_sign r h
  have hX2 : (if 6 < z.length then none else some (if neg = true then -((decVal 0 z : Nat) : Int) else ((decVal 0 z : Nat) : Int))) = X := by
    rw [← hX]; unfold expN; rw [hz, hneg]
  rw [hX]
  have HN := Aside0.mk hneg
  have HZ := Aside0.mk hz
  have HD := Aside0.mk hzd
  have HT := Aside0.mk hT
  clear hX hneg hz hzd hT h
  by_cases h6 : 6 < z.length
  · rw [if_pos h6] at hX2
    subst hX2
    have q1 : ((6 : Int) < ((B z).size : Int)) = True := eq_true (by rw [B_size]; omega)
    go_enter Tryz.func20, Tryz.ntmps20
    go_wp2_with (first
      | (go_at_call 39; (with_reducible refine (hp_any r 45 neg HN.out _).mono ?_); rintro e w1 ⟨rfl, ⟨nd, rfl⟩⟩)
      | (go_at_call 21; (with_reducible refine (tl_set r _).mono ?_); rintro e w2 ⟨rfl, hb2⟩; rw [HT.out])
      | (go_at_call 21; (with_reducible refine (tl_one (expD r) _).mono ?_); rintro e w3 ⟨rfl, rfl⟩; rw [HZ.out]))
    go_ret2
    exact ⟨rfl, bl_trans (bl_drewN (Below.refl _ _) _) hb2⟩
  · rw [if_neg h6] at hX2
    subst hX2
    have q1 : ((6 : Int) < ((B z).size : Int)) = False := eq_false (by rw [B_size]; omega)
    have hzl : z.length ≤ 6 := by omega
    have hlt := decVal_lt z HD.out 0
    have hp : 10 ^ z.length ≤ 10 ^ 6 := Nat.pow_le_pow_right (by decide) hzl
    have hv : decVal 0 z < 1000000 := by omega
    have x1 : (⟨#[48]⟩ : ByteArray) ++ B z = B (48 :: z) := B_app [48] z
    have s1 : (1 + (B z).size ≤ 9223372036854775807) = True := eq_true (by rw [B_size]; omega)
    have s2 : (9223372036854775807 < 1 + (B z).size) = False := eq_false (by rw [B_size]; omega)
    generalize hV : decVal 0 z = v at hv
    have HV := Aside0.mk hV
    clear hlt hp hV
    cases neg with
    | true =>
      go_enter Tryz.func20, Tryz.ntmps20
      go_wp2_with (first
        | (go_at_call 39; (with_reducible refine (hp_any r 45 true HN.out _).mono ?_); rintro e w1 ⟨rfl, ⟨nd, rfl⟩⟩)
        | (go_at_call 21; (with_reducible refine (tl_set r _).mono ?_); rintro e w2 ⟨rfl, hb2⟩; rw [HT.out])
        | (go_at_call 21; (with_reducible refine (tl_one (expD r) _).mono ?_); rintro e w3 ⟨rfl, rfl⟩; rw [HZ.out])
        | (go_at_call 42; (with_reducible refine (atoi_any z HD.out hzl _).mono ?_); rintro e w4 ⟨rfl, hb4⟩; rw [HV.out]))
      go_ret2
      exact ⟨rfl, bl_trans (bl_trans (bl_drewN (Below.refl _ _) _) hb2) hb4⟩
    | false =>
      go_enter Tryz.func20, Tryz.ntmps20
      go_wp2_with (first
        | (go_at_call 39; (with_reducible refine (hp_any r 45 false HN.out _).mono ?_); rintro e w1 ⟨rfl, ⟨nd, rfl⟩⟩)
        | (go_at_call 21; (with_reducible refine (tl_set r _).mono ?_); rintro e w2 ⟨rfl, hb2⟩; rw [HT.out])
        | (go_at_call 21; (with_reducible refine (tl_one (expD r) _).mono ?_); rintro e w3 ⟨rfl, rfl⟩; rw [HZ.out])
        | (go_at_call 42; (with_reducible refine (atoi_any z HD.out hzl _).mono ?_); rintro e w4 ⟨rfl, hb4⟩; rw [HV.out]))
      go_ret2
      exact ⟨rfl, bl_trans (bl_trans (bl_drewN (Below.refl _ _) _) hb2) hb4⟩
end Go.Proofs.YtjaongknagmfiaaGreatDoor
