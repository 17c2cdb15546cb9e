/-
  NumBases is true: the plain law over the printed functions.
-/
import Derived.Test.YtjaongknagmfiaaDoorPBx
import Derived.Test.YtjaongknagmfiaaDoorIntp
import Derived.Test.YtjaongknagmfiaaDoorNr
import Derived.Test.YtjaongknagmfiaaDoorNm
set_option linter.unusedSimpArgs false
set_option linter.unusedVariables false
namespace Go.Proofs.YtjaongknagmfiaaDoor
open Go.RowKit Go.Proofs.YtjaongknagmfiaaDoorW.PrintWords Go.Proofs.YtjaongknagmfiaaDoor.PB

def hexT : List UInt8 := [48, 49, 50, 51, 52, 53, 54, 55, 56, 57, 97, 98, 99, 100, 101, 102]
def hexd (v : Nat) : UInt8 := hexT.getD v 0
theorem hexd_ok (v : Nat) (h : v < 16) : hexd v ≠ 95 ∧ valN (hexd v) = v := by
  have : ∀ v : Fin 16, hexd v.val ≠ 95 ∧ valN (hexd v.val) = v.val := by decide +kernel
  exact this ⟨v, h⟩
/-- A number from 0 on, in the base 2 ^ s. -/
def wd (s : Nat) (n : Nat) : List UInt8 := if h : n < 2 ^ s ∨ s = 0 then [hexd n] else wd s (n / 2 ^ s) ++ [hexd (n % 2 ^ s)]
termination_by n
decreasing_by
  have h1 : 1 < 2 ^ s := Nat.one_lt_two_pow (by omega)
  exact Nat.div_lt_self (by omega) h1
theorem wd_ne (s n : Nat) : wd s n ≠ [] := by
  rw [wd]
  split
  · simp
  · simp
def wstep (s : Nat) (p : Nat × Bool) (c : UInt8) : Nat × Bool := (p.1 * 2 ^ s % 18446744073709551616 + valN c, p.2 || decide (p.1 / 2 ^ (63 - s) ≠ 0))
theorem wrun_app (s : Nat) : ∀ (l r : List UInt8) (n : Nat) (far seen : Bool), (∀ c ∈ l, c ≠ 95 ∧ valN c < 2 ^ s) →
    wrun s (l ++ r) n far seen = wrun s r (l.foldl (wstep s) (n, far)).1 (l.foldl (wstep s) (n, far)).2 (seen || decide (l ≠ [])) := by
  intro l
  induction l with
  | nil => intro r n far seen _; simp
  | cons c l ih =>
    intro r n far seen h
    obtain ⟨h1, h2⟩ := h c List.mem_cons_self
    rw [List.cons_append, wrun, if_neg (fun k => h1 k.1), if_neg (by omega), ih r _ _ _ (fun x hx => h x (List.mem_cons_of_mem _ hx))]
    simp [wstep]
theorem wd_good (s : Nat) (hs : 1 ≤ s ∧ s ≤ 4) (n : Nat) (hn : n < 9223372036854775808) : (∀ c ∈ wd s n, c ≠ 95 ∧ valN c < 2 ^ s) ∧ (wd s n).foldl (wstep s) (0, false) = (n, false) := by
  have hp : 2 ^ s ≤ 2 ^ 4 := Nat.pow_le_pow_right (by decide) hs.2
  have h1 : 1 < 2 ^ s := Nat.one_lt_two_pow (by omega)
  induction n using Nat.strongRecOn with
  | _ n ih =>
    rw [wd]
    by_cases h : n < 2 ^ s
    · rw [dif_pos (.inl h)]
      obtain ⟨g1, g2⟩ := hexd_ok n (by omega)
      refine ⟨fun c hc => ?_, ?_⟩
      · obtain rfl := List.mem_singleton.1 hc
        exact ⟨g1, by rw [g2]; exact h⟩
      · simp [wstep, g2]
    · rw [dif_neg (by omega)]
      have hlt : n / 2 ^ s < n := Nat.div_lt_self (by omega) h1
      have hm : n % 2 ^ s < 2 ^ s := Nat.mod_lt _ (by omega)
      obtain ⟨i1, i2⟩ := ih (n / 2 ^ s) hlt (by omega)
      obtain ⟨g1, g2⟩ := hexd_ok (n % 2 ^ s) (by omega)
      refine ⟨fun c hc => ?_, ?_⟩
      · rcases List.mem_append.1 hc with k | k
        · exact i1 c k
        · obtain rfl := List.mem_singleton.1 k
          exact ⟨g1, by rw [g2]; exact hm⟩
      · rw [List.foldl_append, i2]
        simp only [List.foldl_cons, List.foldl_nil, wstep, g2, Bool.false_or]
        have hd : n / 2 ^ s / 2 ^ (63 - s) = 0 := by
          rw [Nat.div_div_eq_div_mul, ← Nat.pow_add, show s + (63 - s) = 63 by omega]
          exact Nat.div_eq_of_lt hn
        rw [hd]
        have hdm := Nat.div_add_mod n (2 ^ s)
        rw [Nat.mul_comm] at hdm
        have : n / 2 ^ s * 2 ^ s % 18446744073709551616 = n / 2 ^ s * 2 ^ s := Nat.mod_eq_of_lt (by omega)
        rw [this, hdm]
        rfl
theorem wd_run (s : Nat) (hs : 1 ≤ s ∧ s ≤ 4) (n : Nat) (hn : n < 9223372036854775808) : wrun s (wd s n) 0 false false = some (n, false, true) := by
  obtain ⟨h1, h2⟩ := wd_good s hs n hn
  have h := wrun_app s (wd s n) [] 0 false false h1
  rw [List.append_nil, h2] at h
  rw [h, wrun]
  simp [wd_ne]
theorem hexd_bt (v : Nat) (h : v < 16) : strOfNums [bt (⟨#[48, 49, 50, 51, 52, 53, 54, 55, 56, 57, 97, 98, 99, 100, 101, 102]⟩ : ByteArray) (v : Int)] = B [hexd v] := by
  have e : bt (⟨#[48, 49, 50, 51, 52, 53, 54, 55, 56, 57, 97, 98, 99, 100, 101, 102]⟩ : ByteArray) (v : Int) = ((hexd v).toNat : Int) := B_bt hexT v
  rw [e]
  exact strOfNums_B [hexd v]
theorem wrap_nat (q : Nat) (h : q < 18446744073709551616) : IntKind.u64.wrap (q : Int) = (q : Int) := by rw [IntKind.wrap_u64]; omega
theorem written_l0 (s : Nat) (hs : 1 ≤ s ∧ s ≤ 4) : ∀ (m n k : Nat) (acc : List UInt8), n < 2 ^ m → 1 ≤ n → n < 18446744073709551616 → m < k → acc.length + m ≤ 1000 →
    emendlaw2_written.l0 k (n : Int) ((2 ^ s : Nat) : Int) (B acc) = some (B (wd s n ++ acc)) := by
  have hp : 2 ^ s ≤ 2 ^ 4 := Nat.pow_le_pow_right (by decide) hs.2
  have h1 : 1 < 2 ^ s := Nat.one_lt_two_pow (by omega)
  intro m
  induction m with
  | zero => intro n k acc hn h1 _ _ _; simp at hn; omega
  | succ m ih =>
    intro n k acc hn hn1 hn64 hk hl
    obtain ⟨k, rfl⟩ : ∃ j, k = j + 1 := ⟨k - 1, by omega⟩
    have hm : Int.tmod (n : Int) ((2 ^ s : Nat) : Int) = ((n % 2 ^ s : Nat) : Int) := by rw [Int.tmod_eq_emod_of_nonneg (by omega), Int.natCast_emod]
    have hd : Int.tdiv (n : Int) ((2 ^ s : Nat) : Int) = ((n / 2 ^ s : Nat) : Int) := by rw [Int.tdiv_eq_ediv_of_nonneg (by omega), Int.natCast_ediv]
    have hlt : n / 2 ^ s < n := Nat.div_lt_self (by omega) h1
    have hmm : n % 2 ^ s < 2 ^ s := Nat.mod_lt _ (by omega)
    have hw := wrap_nat (n / 2 ^ s) (by omega)
    rw [emendlaw2_written.l0, hm, hd, hw, if_pos (by omega), if_neg (by omega), if_pos (by omega), if_pos (by omega), Option.bind_some, hexd_bt _ (by omega), if_pos (by rw [B_size, B_size]; simp; omega), B_app]
    by_cases h : n < 2 ^ s
    · obtain ⟨k, rfl⟩ : ∃ j, k = j + 1 := ⟨k - 1, by omega⟩
      rw [Nat.div_eq_of_lt h, Nat.mod_eq_of_lt h, emendlaw2_written.l0, if_neg (by omega), if_neg (by rw [B_list]; simp)]
      rw [wd, dif_pos (.inl h)]
    · have hm2 : n / 2 ^ s < 2 ^ m := by
        refine Nat.div_lt_of_lt_mul ?_
        rw [Nat.pow_succ] at hn
        calc n < 2 ^ m * 2 := hn
          _ ≤ 2 ^ m * 2 ^ s := Nat.mul_le_mul_left _ h1
          _ = 2 ^ s * 2 ^ m := Nat.mul_comm _ _
      rw [ih (n / 2 ^ s) k _ hm2 (Nat.div_pos (by omega) (by omega)) (by omega) (by omega) (by simp; omega)]
      rw [wd.eq_1 s n, dif_neg (by omega)]
      simp
theorem written_f (s : Nat) (hs : 1 ≤ s ∧ s ≤ 4) (n : Nat) (hn : n < 9223372036854775808) (k : Nat) (hk : 80 ≤ k) : emendlaw2_written.f k (n : Int) ((2 ^ s : Nat) : Int) = some (B (wd s n)) := by
  unfold emendlaw2_written.f
  have h1 : 1 < 2 ^ s := Nat.one_lt_two_pow (by omega)
  by_cases h : 1 ≤ n
  · have := written_l0 s hs 63 n k [] (by omega) h (by omega) (by omega) (by simp)
    rw [List.append_nil] at this
    exact this
  · have : n = 0 := by omega
    subst this
    obtain ⟨k, rfl⟩ : ∃ j, k = j + 2 := ⟨k - 2, by omega⟩
    have e0 : Int.tmod ((0 : Nat) : Int) ((2 ^ s : Nat) : Int) = ((0 : Nat) : Int) := by simp
    have e1 : Int.tdiv ((0 : Nat) : Int) ((2 ^ s : Nat) : Int) = ((0 : Nat) : Int) := by simp
    have hw : IntKind.u64.wrap ((0 : Nat) : Int) = ((0 : Nat) : Int) := by rw [IntKind.wrap_u64]; rfl
    rw [emendlaw2_written.l0, e0, e1, hw, if_neg (by omega), if_pos (show (⟨#[]⟩ : ByteArray).toList = [] from B_list []), if_neg (by omega), if_pos (by omega), if_pos (by omega), Option.bind_some, hexd_bt 0 (by omega), if_pos (by decide), show B [hexd 0] ++ (⟨#[]⟩ : ByteArray) = B [hexd 0] from B_app [hexd 0] [], emendlaw2_written.l0, if_neg (by omega), if_neg (by rw [B_list]; simp)]
    rw [wd, dif_pos (.inl (by omega))]
theorem wd_len (s : Nat) (hs : 1 ≤ s ∧ s ≤ 4) : ∀ (m n : Nat), n < 2 ^ m → (wd s n).length ≤ m + 1 := by
  have h1 : 1 < 2 ^ s := Nat.one_lt_two_pow (by omega)
  intro m
  induction m with
  | zero =>
    intro n hn
    rw [wd, dif_pos (.inl (by simp at hn; omega))]; simp
  | succ m ih =>
    intro n hn
    rw [wd]
    split
    · simp
    · have hm2 : n / 2 ^ s < 2 ^ m := by
        refine Nat.div_lt_of_lt_mul ?_
        rw [Nat.pow_succ] at hn
        calc n < 2 ^ m * 2 := hn
          _ ≤ 2 ^ m * 2 ^ s := Nat.mul_le_mul_left _ h1
          _ = 2 ^ s * 2 ^ m := Nat.mul_comm _ _
      have := ih (n / 2 ^ s) hm2
      rw [List.length_append, List.length_singleton]; omega
theorem base_round (s : Nat) (hs : 1 ≤ s ∧ s ≤ 4) (n : Nat) (hn : n < 9223372036854775808) (h0 : (normL (Lib.decDigits n)).2 = 0) (base : Int) (hb : base = ((2 ^ s : Nat) : Int)) (hw : ∀ l, wholeL l base = wholeE (wrun s l 0 false false)) (k : Nat) (hk : 80 ≤ k) (i : Nat) (hi : i < 3) (hr : rd [2, 8, 16] (i : Int) = base)
    (hnext : emendlaw2_NumBases.l0 k (n : Int) (B (normL (Lib.decDigits n)).1) 0 [2, 8, 16] ((i + 1 : Nat) : Int) = some true) :
    emendlaw2_NumBases.l0 (k + 1) (n : Int) (B (normL (Lib.decDigits n)).1) 0 [2, 8, 16] (i : Int) = some true := by
  have e1 : IntKind.u64.wrap (n : Int) = (n : Int) := by rw [IntKind.wrap_u64]; omega
  have hp : 2 ^ s ≤ 2 ^ 4 := Nat.pow_le_pow_right (by decide) hs.2
  have e2 : IntKind.u64.wrap base = base := by rw [hb]; exact wrap_nat _ (by omega)
  have hl := wd_len s hs 63 n (by omega)
  rw [emendlaw2_NumBases.l0, if_pos (by omega), if_pos (by omega), if_pos (by simp; omega), hr, e1, e2, hb, written_f s hs n hn k hk, Option.bind_some]
  unfold num_Whole.f
  rw [if_pos (by rw [B_size]; omega), B_data, Option.bind_some, ← hb, hw, wd_run s hs n hn]
  have e3 : wholeE (some (n, false, true)) = normL (Lib.decDigits n) := rfl
  rw [e3, if_pos rfl, if_pos h0, if_pos rfl, show wrap64 ((i : Int) + 1) = ((i + 1 : Nat) : Int) by unfold wrap64; omega]
  exact hnext
theorem bases_j0 (n : Nat) (hn : n < 9223372036854775808) : emendlaw2_NumBases.j0 104 (n : Int) = some true := by
  have hb : -9223372036854775808 ≤ (n : Int) ∧ (n : Int) ≤ 9223372036854775807 := by omega
  have hl := Lib.itoa_length_le (n : Int) hb.1 hb.2
  have h0 : (normL (Lib.itoa (n : Int))).2 = 0 := by
    have h1 := split_int (n : Int) hb
    have h2 := join_int (n : Int) hb
    unfold normL
    rw [h1, if_neg (fun k => k rfl)]; exact h2
  rw [emendlaw2_NumBases.j0]
  unfold emendref2_Decimal.f num_Normal.f
  rw [if_pos hb, Option.bind_some, if_pos (by rw [B_size]; omega), Option.bind_some, B_data]
  rw [Lib.itoa_nonneg] at h0 ⊢
  simp only
  rw [h0]
  have hend : ∀ k, emendlaw2_NumBases.l0 (k + 1) (n : Int) (B (normL (Lib.decDigits n)).1) 0 [2, 8, 16] ((3 : Nat) : Int) = some true := by
    intro k
    rw [emendlaw2_NumBases.l0, if_neg (by omega)]; rfl
  exact base_round 1 (by omega) n hn h0 2 rfl (fun l => rfl) 102 (by omega) 0 (by omega) rfl (base_round 3 (by omega) n hn h0 8 rfl (fun l => rfl) 101 (by omega) 1 (by omega) rfl (base_round 4 (by omega) n hn h0 16 rfl (fun l => rfl) 100 (by omega) 2 (by omega) rfl (hend 99)))
theorem numBases_f (n : Int) (hn : -9223372036854775808 ≤ n ∧ n ≤ 9223372036854775807) : emendlaw2_NumBases.f 104 n = some true := by
  unfold emendlaw2_NumBases.f
  by_cases h : n < 0
  · rw [if_pos h]
    obtain ⟨m, hm⟩ : ∃ m : Nat, -1 - n = m := ⟨(-1 - n).toNat, by omega⟩
    rw [hm, show wrap64 (m : Int) = (m : Int) by unfold wrap64; omega]
    exact bases_j0 m (by omega)
  · rw [if_neg h]
    obtain ⟨m, rfl⟩ : ∃ m : Nat, n = m := ⟨n.toNat, by omega⟩
    exact bases_j0 m (by omega)
theorem numBases_true (n : Int) (w : World) (he : Env w) (hn : -9223372036854775808 ≤ n ∧ n ≤ 9223372036854775807) :
    Calls Tryd.prog 8 #[.int .i64 n] w fun e w' => e = .returned (.bool true) ∧ Below w.heap.size w w' :=
  emendlaw2_NumBases.calls 104 n true w he (numBases_f n hn)
end Go.Proofs.YtjaongknagmfiaaDoor
