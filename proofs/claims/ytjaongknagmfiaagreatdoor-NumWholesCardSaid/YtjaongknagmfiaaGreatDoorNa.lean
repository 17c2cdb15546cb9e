/-
  Texts as lists of bytes; the printed functions of num, at lists.
-/
import Derived.Test.YtjaongknagmfiaaGreatDoorPTx
import Derived.Lib.Atoi
import Derived.Lib.ItoaNum
import Derived.Lib.ItoaMem
import Derived.Lib.IndexBytes
set_option linter.unusedSimpArgs false
set_option linter.unusedVariables false
namespace Go.Proofs.YtjaongknagmfiaaGreatDoor
open Go.RowKit Go.Proofs.YtjaongknagmfiaaGreatDoorW.PrintWords Go.Proofs.YtjaongknagmfiaaGreatDoor.PT

/-- A list of bytes as a text. -/
def B (l : List UInt8) : ByteArray := ⟨l.toArray⟩
theorem B_of (s : ByteArray) : B s.data.toList = s := by cases s; rfl
theorem B_data (l : List UInt8) : (B l).data.toList = l := rfl
theorem B_size (l : List UInt8) : (B l).size = l.length := rfl
theorem B_list (l : List UInt8) : (B l).toList = l := by rw [Lib.toList_data]; rfl
theorem B_app (l m : List UInt8) : B l ++ B m = B (l ++ m) := by
  apply ByteArray.ext
  rw [ByteArray.data_append]
  simp [B]
theorem B_ext (l : List UInt8) (i j : Nat) : (B l).extract i j = B ((l.drop i).take (j - i)) := by
  apply ByteArray.ext
  rw [ByteArray.data_extract]
  apply Array.toList_inj.1
  rw [Array.toList_extract]
  simp [B, List.extract]
theorem B_tail (l : List UInt8) (i : Nat) : (B l).extract i (B l).size = B (l.drop i) := by
  rw [B_ext, B_size, List.take_of_length_le (by rw [List.length_drop]; exact Nat.le_refl _)]
theorem B_head (l : List UInt8) (i : Nat) : (B l).extract 0 i = B (l.take i) := by rw [B_ext]; simp
theorem B_bt (l : List UInt8) (i : Nat) : bt (B l) (i : Int) = ((l.getD i 0).toNat : Int) := by
  unfold bt
  rw [Int.toNat_natCast]
  by_cases h : i < (B l).size
  · rw [dif_pos h, List.getD_eq_getElem?_getD, List.getElem?_eq_getElem (by exact h)]
    rfl
  · rw [dif_neg h, List.getD_eq_getElem?_getD, List.getElem?_eq_none (by exact Nat.le_of_not_lt h)]
    rfl
theorem B_bt0 (c : UInt8) (l : List UInt8) : bt (B (c :: l)) 0 = (c.toNat : Int) := by
  have := B_bt (c :: l) 0
  simpa using this
theorem B_inj {l m : List UInt8} (h : B l = B m) : l = m := by rw [← B_data l, ← B_data m, h]
theorem strOfNums_B (l : List UInt8) : strOfNums (l.map fun x => (x.toNat : Int)) = B l := by
  apply ByteArray.ext
  unfold strOfNums B
  apply Array.toList_inj.1
  simp only [List.map_map]
  conv => rhs; rw [← List.map_id l]
  apply List.map_congr_left
  intro x hx
  simp

/-! ### Digits -/
def isD (c : UInt8) : Bool := 48 ≤ c.toNat && c.toNat ≤ 57
theorem digit_f (c : UInt8) : num_digit.f (c.toNat : Int) = some (isD c) := by
  unfold num_digit.f isD
  by_cases h : (48 : Nat) ≤ c.toNat
  · rw [if_pos (by omega)]
    by_cases h1 : c.toNat ≤ 57
    · have h2 : (c.toNat : Int) ≤ 57 := by omega
      simp [h, h1, h2]
    · have h2 : ¬ (c.toNat : Int) ≤ 57 := by omega
      simp [h, h1, h2]
  · rw [if_neg (by omega)]; simp [h]
theorem isD_digitVal (c : UInt8) (h : isD c = true) : Lib.digitVal c = some (c.toNat - 48) := by
  have hb : ∀ n : Fin 256, isD (UInt8.ofNat n.val) = true → Lib.digitVal (UInt8.ofNat n.val) = some ((UInt8.ofNat n.val).toNat - 48) := by decide +kernel
  have := hb ⟨c.toNat, c.toNat_lt⟩
  simp only [UInt8.ofNat_toNat] at this
  exact this h
theorem tw_take {α : Type} (p : α → Bool) (l : List α) : l.take (l.takeWhile p).length = l.takeWhile p := by
  have h := List.takeWhile_append_dropWhile (p := p) (l := l)
  conv => lhs; arg 2; rw [← h]
  rw [List.take_left']
  rfl
theorem tw_drop {α : Type} (p : α → Bool) (l : List α) : l.drop (l.takeWhile p).length = l.dropWhile p := by
  have h := List.takeWhile_append_dropWhile (p := p) (l := l)
  conv => lhs; arg 2; rw [← h]
  rw [List.drop_left']
  rfl
theorem tw_len {α : Type} (p : α → Bool) (l : List α) : (l.takeWhile p).length ≤ l.length := by
  have h := congrArg List.length (List.takeWhile_append_dropWhile (p := p) (l := l))
  rw [List.length_append] at h
  omega
theorem run_l0 (l : List UInt8) (hl : l.length ≤ 1000000) : ∀ (m : List UInt8) (i k : Nat), l.drop i = m → i ≤ l.length → m.length < k → num_run.l0 k (B l) (i : Int) = some ((i + (m.takeWhile isD).length : Nat) : Int) := by
  intro m
  induction m with
  | nil =>
    intro i k hm hi hk
    obtain ⟨k, rfl⟩ : ∃ j, k = j + 1 := ⟨k - 1, by simp at hk; omega⟩
    have : l.length ≤ i := by have := congrArg List.length hm; simp at this; omega
    rw [num_run.l0, if_neg (by rw [B_size]; omega)]
    rfl
  | cons c m ih =>
    intro i k hm hi hk
    simp only [List.length_cons] at hk
    obtain ⟨k, rfl⟩ : ∃ j, k = j + 1 := ⟨k - 1, by omega⟩
    have hlt : i < l.length := by have := congrArg List.length hm; simp at this; omega
    have hc : l.getD i 0 = c := by
      have := congrArg (fun x : List UInt8 => x[0]?) hm
      simp [List.getElem?_drop] at this
      rw [List.getD_eq_getElem?_getD, this]; rfl
    rw [num_run.l0, if_pos (by rw [B_size]; omega), if_pos (by omega), B_bt, hc, digit_f, Option.bind_some]
    have hd : l.drop (i + 1) = m := by rw [← List.drop_drop, hm]; rfl
    cases hdc : isD c with
    | false => simp [List.takeWhile_cons, hdc]
    | true =>
      rw [if_pos rfl, show wrap64 ((i : Int) + 1) = ((i + 1 : Nat) : Int) by unfold wrap64; omega, ih (i + 1) k hd (by omega) (by omega), List.takeWhile_cons, hdc]
      simp only [if_true, List.length_cons]
      congr 2
      omega
theorem run_f (l : List UInt8) (hl : l.length ≤ 1000000) (k : Nat) (hk : l.length < k) : num_run.f k (B l) = some ((l.takeWhile isD).length : Int) := by
  unfold num_run.f
  have := run_l0 l hl l 0 k rfl (Nat.zero_le _) hk
  simpa using this

/-! ### One byte ahead -/
theorem beq_take1 (c : UInt8) (l : List UInt8) : (l.take 1 == [c]) = (l.head? == some c) := by cases l <;> simp
theorem hasP_f (l : List UInt8) (c : UInt8) : strings_HasPrefix.f (B l) (B [c]) = some (l.head? == some c) := by
  unfold strings_HasPrefix.f stringslite_HasPrefix.f
  rw [B_size, B_size, B_list]
  have h1 : (([c].length : Nat) : Int) = 1 := rfl
  rw [h1]
  by_cases h : (l.length : Int) ≥ 1
  · rw [if_pos h, if_pos (by decide), if_pos h, Option.bind_some]
    rw [show ((1 : Int) : Int).toNat = 1 from rfl, B_head, B_list, beq_take1]
  · have : l = [] := by cases l with | nil => rfl | cons a l => simp only [List.length_cons] at h; omega
    subst this
    rw [if_neg h]; rfl
theorem trimP_f (l : List UInt8) (c : UInt8) : strings_TrimPrefix.f (B l) (B [c]) = some (B (if l.head? = some c then l.tail else l)) := by
  unfold strings_TrimPrefix.f stringslite_TrimPrefix.f
  have h := hasP_f l c
  unfold strings_HasPrefix.f at h
  cases hh : stringslite_HasPrefix.f (B l) (B [c]) with
  | none => rw [hh] at h; cases h
  | some b =>
    rw [hh, Option.bind_some] at h
    injection h with h
    rw [Option.bind_some, h]
    have h1 : ((B [c]).size : Int) = 1 := rfl
    rw [h1]
    by_cases hc : l.head? = some c
    · rw [if_pos (by simp [hc]), if_pos hc, if_pos (by decide), if_pos (by cases l with | nil => cases hc | cons a l => rw [B_size]; simp; omega), Option.bind_some]
      rw [show ((1 : Int) : Int).toNat = 1 from rfl, B_tail]; simp
    · rw [if_neg (by simp [hc]), if_neg hc, Option.bind_some]

/-! ### Noughts cut off -/
theorem trimL_f (c : UInt8) : ∀ (l : List UInt8) (k : Nat), l.length < k → strings_trimLeftByte.f k (B l) (c.toNat : Int) = some (B (l.dropWhile (· == c))) := by
  intro l
  unfold strings_trimLeftByte.f
  induction l with
  | nil =>
    intro k hk
    obtain ⟨k, rfl⟩ : ∃ j, k = j + 1 := ⟨k - 1, by simp at hk; omega⟩
    rw [strings_trimLeftByte.l0, if_neg (by rw [B_size]; simp)]
    rfl
  | cons a l ih =>
    intro k hk
    simp only [List.length_cons] at hk
    obtain ⟨k, rfl⟩ : ∃ j, k = j + 1 := ⟨k - 1, by omega⟩
    rw [strings_trimLeftByte.l0, if_pos (by rw [B_size, List.length_cons]; omega), if_pos (by rw [B_size, List.length_cons]; omega), B_bt0]
    by_cases hc : a = c
    · subst hc
      rw [if_pos rfl, if_pos (by rw [B_size]; simp; omega), B_tail]
      have := ih k (by omega)
      simpa using this
    · have : ¬ ((a.toNat : Int) = c.toNat) := fun h => hc (UInt8.toNat_inj.1 (by omega))
      rw [if_neg this, List.dropWhile_cons, if_neg (by simpa using hc)]
/-- The list without its last bytes c. -/
def trimE (c : UInt8) (l : List UInt8) : List UInt8 := (l.reverse.dropWhile (· == c)).reverse
theorem trimE_snoc (c a : UInt8) (l : List UInt8) : trimE c (l ++ [a]) = if a = c then trimE c l else l ++ [a] := by
  unfold trimE
  rw [List.reverse_append, List.reverse_singleton, List.singleton_append, List.dropWhile_cons]
  by_cases h : a = c
  · rw [if_pos (by simpa using h), if_pos h]
  · rw [if_neg (by simpa using h), if_neg h]; simp
theorem trimR_f (c : UInt8) : ∀ (n : Nat) (l : List UInt8) (k : Nat), l.length = n → n ≤ 1000000 → n < k → strings_trimRightByte.f k (B l) (c.toNat : Int) = some (B (trimE c l)) := by
  intro n
  unfold strings_trimRightByte.f
  induction n with
  | zero =>
    intro l k hl _ hk
    obtain rfl := List.eq_nil_of_length_eq_zero hl
    obtain ⟨k, rfl⟩ : ∃ j, k = j + 1 := ⟨k - 1, by omega⟩
    rw [strings_trimRightByte.l0, if_neg (by rw [B_size]; simp)]
    rfl
  | succ n ih =>
    intro l k hl hn hk
    obtain ⟨k, rfl⟩ : ∃ j, k = j + 1 := ⟨k - 1, by omega⟩
    obtain ⟨m, a, rfl⟩ : ∃ m a, l = m ++ [a] := ⟨l.dropLast, l.getLast (by intro h; rw [h] at hl; cases hl), (List.dropLast_concat_getLast _).symm⟩
    have hm : m.length = n := by simpa using hl
    have hw : wrap64 (((B (m ++ [a])).size : Int) - 1) = (n : Int) := by rw [B_size]; simp [hm]; unfold wrap64; omega
    rw [strings_trimRightByte.l0, hw, if_pos (by rw [B_size, hl]; omega), if_pos (by omega), if_pos (by rw [B_size, hl]; omega), B_bt, List.getD_eq_getElem?_getD, List.getElem?_append_right (by omega), hm, trimE_snoc]
    simp only [Nat.sub_self, List.getElem?_cons_zero, Option.getD_some]
    by_cases hc : a = c
    · subst hc
      rw [if_pos rfl, if_pos rfl, if_pos (by rw [B_size, hl]; omega), Int.toNat_natCast, B_head, List.take_left' hm]
      exact ih m k hm (by omega) (by omega)
    · have : ¬ ((a.toNat : Int) = c.toNat) := fun h => hc (UInt8.toNat_inj.1 (by omega))
      rw [if_neg this, if_neg hc]
end Go.Proofs.YtjaongknagmfiaaGreatDoor
