/-
 NumWholes is true: the plain law over the printed functions. PRINTED by gen_ref.py.
-/
import Derived.Test.YtjaongknagmfiaaGreatDoorPWx
import Derived.Test.YtjaongknagmfiaaGreatDoorNrm
set_option linter.unusedSimpArgs false
set_option linter.unusedVariables false
namespace Go.Proofs.YtjaongknagmfiaaGreatDoor
open Go.RowKit Go.Proofs.YtjaongknagmfiaaGreatDoorW.PrintWords Go.Proofs.YtjaongknagmfiaaGreatDoor.PW
def tup (p : (Bool × List UInt8 × Int) × Int) : Bool × ByteArray × Int × Int := (p.1.1, B p.1.2.1, p.1.2.2, p.2)
theorem digit_h (c : UInt8) : emendref2_digit.f (c.toNat : Int) = some (isD c) := by
 unfold emendref2_digit.f isD
 by_cases h : (48 : Nat) ≤ c.toNat
 ·rw [if_pos (by omega)]
  by_cases h1 : c.toNat ≤ 57
  ·have h2 : (c.toNat : Int) ≤ 57 := by omega
   simp [h, h1, h2]
  ·have h2 : ¬ (c.toNat : Int) ≤ 57 := by omega
   simp [h, h1, h2]
 ·rw [if_neg (by omega)]; simp [h]
theorem wrap_s (n : Nat) (h : n ≤ 100000) : wrap64 ((n : Int) + 1) = ((n + 1 : Nat) : Int) := by unfold wrap64; omega
theorem bt_drop (l : List UInt8) (i : Nat) (c : UInt8) (r : List UInt8) (h : l.drop i = c :: r) : bt (B l) (i : Int) = (c.toNat : Int) ∧ i < l.length ∧ l.drop (i + 1) = r := by
 have hlt : i < l.length := by
  have := congrArg List.length h
  simp at this; omega
 refine ⟨?_, hlt, ?_⟩
 ·rw [B_bt]
  have : l.getD i 0 = c := by
   have := congrArg (fun x : List UInt8 => x[0]?) h
   simp [List.getElem?_drop] at this
   rw [List.getD_eq_getElem?_getD, this]; rfl
  rw [this]
 ·rw [← List.drop_drop, h]; rfl
theorem run_h (l : List UInt8) (hl : l.length ≤ 2000) : ∀ (m : List UInt8) (i k : Nat), l.drop i = m → i ≤ l.length → m.length < k → emendref2_run.f k (B l) (i : Int) = some ((i + (m.takeWhile isD).length : Nat) : Int) := by
 intro m
 induction m with
 | nil =>
  intro i k hm hi hk
  obtain ⟨k, rfl⟩ : ∃ j, k = j + 1 := ⟨k - 1, by omega⟩
  have : l.length ≤ i := List.drop_eq_nil_iff.1 hm
  unfold emendref2_run.f
  rw [emendref2_run.l0, if_neg (by rw [B_size]; omega)]
  simp
 | cons c m ih =>
  intro i k hm hi hk
  simp only [List.length_cons] at hk
  obtain ⟨k, rfl⟩ : ∃ j, k = j + 1 := ⟨k - 1, by omega⟩
  obtain ⟨h1, h2, h3⟩ := bt_drop l i c m hm
  unfold emendref2_run.f at ih ⊢
  rw [emendref2_run.l0, if_pos (by rw [B_size]; omega), if_pos (by omega), h1, digit_h, Option.bind_some]
  cases hdc : isD c with
  | false => simp [List.takeWhile_cons, hdc]
  | true =>
   rw [if_pos rfl, wrap_s i (by omega), ih (i + 1) k h3 (by omega) (by omega), List.takeWhile_cons, hdc]
   simp only [if_true, List.length_cons]
   congr 2
   omega
theorem bt48 (c : UInt8) (n : UInt8) (m : Nat) (h : n.toNat = m) : ((c.toNat : Int) = (m : Int)) ↔ c = n := ⟨fun k => UInt8.toNat_inj.1 (by omega), fun k => by subst k; omega⟩
theorem eq_48 (c : UInt8) : ((c.toNat : Int) = 48) ↔ c = 48 := bt48 c 48 48 rfl
theorem eq_45 (c : UInt8) : ((c.toNat : Int) = 45) ↔ c = 45 := bt48 c 45 45 rfl
theorem eq_43 (c : UInt8) : ((c.toNat : Int) = 43) ↔ c = 43 := bt48 c 43 43 rfl
theorem eq_46 (c : UInt8) : ((c.toNat : Int) = 46) ↔ c = 46 := bt48 c 46 46 rfl
theorem eq_101 (c : UInt8) : ((c.toNat : Int) = 101) ↔ c = 101 := bt48 c 101 101 rfl
theorem eq_69 (c : UInt8) : ((c.toNat : Int) = 69) ↔ c = 69 := bt48 c 69 69 rfl
theorem beq_dec (c n : UInt8) (m : Nat) (h : n.toNat = m) : ((c.toNat : Int) == (m : Int)) = decide (c = n) := by
 by_cases k : c = n
 ·rw [decide_eq_true k]; exact beq_iff_eq.2 ((bt48 c n m h).2 k)
 ·rw [decide_eq_false k]; exact beq_eq_false_iff_ne.2 (fun g => k ((bt48 c n m h).1 g))
theorem dw48 (d : List UInt8) : (48 :: d).dropWhile (· == 48) = d.dropWhile (· == 48) := rfl
theorem acc_step (acc c : Nat) (h : acc < 1000000) (hc : 48 ≤ c ∧ c ≤ 57) : wrap64 (wrap64 ((acc : Int) * 10) + ((c : Int) - 48) % 256) = ((acc * 10 + (c - 48) : Nat) : Int) := by
 have e1 : wrap64 ((acc : Int) * 10) = (acc : Int) * 10 := by unfold wrap64; omega
 have e2 : ((c : Int) - 48) % 256 = (c : Int) - 48 := by omega
 rw [e1, e2]
 unfold wrap64; omega
/-! ### The end: noughts cut off -/
theorem rs_l3 (l : List UInt8) (hl : 0 < l.length) (e : Int) : ∀ (d : List UInt8) (k : Nat), d.length < k → emendref2_Split.l3 k (B l) e (B d) = some (if d.dropWhile (· == 48) = [] then (false, (⟨#[]⟩ : ByteArray), 0, 0) else (l.head? == some 45, B (d.dropWhile (· == 48)), e, 0)) := by
 have hh : (bt (B l) 0 == 45) = (l.head? == some 45) := by
  cases l with
  | nil => simp at hl
  | cons a l =>
   have h1 := beq_dec a 45 45 rfl
   rw [show ((45 : Nat) : Int) = 45 from rfl] at h1
   rw [B_bt0, h1]
   rfl
 intro d
 induction d with
 | nil =>
  intro k hk
  obtain ⟨k, rfl⟩ : ∃ j, k = j + 1 := ⟨k - 1, by omega⟩
  rw [emendref2_Split.l3, if_neg (by decide), if_pos (B_list []), if_pos (by rfl)]
 | cons a d ih =>
  intro k hk
  simp only [List.length_cons] at hk
  obtain ⟨k, rfl⟩ : ∃ j, k = j + 1 := ⟨k - 1, by omega⟩
  rw [emendref2_Split.l3, if_pos (by rw [B_size, List.length_cons]; omega), if_pos (by rw [B_size, List.length_cons]; omega), B_bt0]
  by_cases h : a = 48
  ·rw [if_pos ((eq_48 a).2 h), if_pos (by rw [B_size, List.length_cons]; omega), B_tail]
   have := ih k (by omega)
   subst h
   rw [dw48]
   exact this
  ·have hdw : (a :: d).dropWhile (· == 48) = a :: d := by rw [List.dropWhile_cons, if_neg (fun k => h (eq_of_beq k))]
   rw [if_neg (fun k => h ((eq_48 a).1 k)), if_neg (by rw [B_list]; simp), if_pos (by rw [B_size]; omega), hh, hdw, if_neg (by simp)]
theorem trimE_snoc48 (d : List UInt8) : trimE 48 (d ++ [48]) = trimE 48 d := by rw [trimE_snoc, if_pos rfl]
theorem rs_l2 (l : List UInt8) (hl : 0 < l.length) : ∀ (n : Nat) (d : List UInt8) (e : Int) (k : Nat), d.length = n → n ≤ 5000 → -2000000 ≤ e ∧ e + n ≤ 2000000 → 2 * n + 3 < k →
  emendref2_Split.l2 k (B l) e (B d) = some (if (trimE 48 d).dropWhile (· == 48) = [] then (false, (⟨#[]⟩ : ByteArray), 0, 0) else (l.head? == some 45, B ((trimE 48 d).dropWhile (· == 48)), e + ((d.length : Int) - (trimE 48 d).length), 0)) := by
 intro n
 induction n with
 | zero =>
  intro d e k hd hn he hk
  obtain rfl := List.eq_nil_of_length_eq_zero hd
  obtain ⟨k, rfl⟩ : ∃ j, k = j + 2 := ⟨k - 2, by omega⟩
  rw [emendref2_Split.l2, if_neg (by decide), emendref2_Split.j13, rs_l3 l hl e [] k (by simp; omega)]
  rfl
 | succ n ih =>
  intro d e k hd hn he hk
  obtain ⟨k, rfl⟩ : ∃ j, k = j + 1 := ⟨k - 1, by omega⟩
  obtain ⟨m, a, rfl⟩ : ∃ m a, d = m ++ [a] := ⟨d.dropLast, d.getLast (by intro h; rw [h] at hd; cases hd), (List.dropLast_concat_getLast _).symm⟩
  have hm : m.length = n := by simpa using hd
  have hs : ((B (m ++ [a])).size : Int) = (n : Int) + 1 := by rw [B_size, hd]; omega
  have hw : wrap64 (((B (m ++ [a])).size : Int) - 1) = (n : Int) := by rw [hs]; unfold wrap64; omega
  have hb : bt (B (m ++ [a])) (n : Int) = (a.toNat : Int) := by
   rw [B_bt, List.getD_eq_getElem?_getD, List.getElem?_append_right (by omega), hm]
   simp
  rw [emendref2_Split.l2, hw, if_pos (by omega), if_pos (by omega), if_pos (by omega), hb]
  by_cases h : a = 48
  ·subst h
   rw [if_pos ((eq_48 48).2 rfl), if_pos (by omega), Int.toNat_natCast, B_head, List.take_left' hm, show wrap64 (e + 1) = e + 1 by unfold wrap64; omega, ih m (e + 1) k hm (by omega) (by omega) (by omega), trimE_snoc48]
   congr 1
   by_cases h0 : (trimE 48 m).dropWhile (· == 48) = []
   ·rw [if_pos h0, if_pos h0]
   ·rw [if_neg h0, if_neg h0]
    congr 3
    rw [List.length_append, List.length_singleton]
    omega
  ·rw [if_neg (fun g => h ((eq_48 a).1 g))]
   have ht : trimE 48 (m ++ [a]) = m ++ [a] := by rw [trimE_snoc, if_neg h]
   obtain ⟨k, rfl⟩ : ∃ j, k = j + 1 := ⟨k - 1, by omega⟩
   rw [emendref2_Split.j13, rs_l3 l hl e _ k (by omega), ht]
   congr 1
   by_cases h0 : (m ++ [a]).dropWhile (· == 48) = []
   ·rw [if_pos h0, if_pos h0]
   ·rw [if_neg h0, if_neg h0]
    congr 3
    omega
/-- The noughts in front and those behind may be cut off in either order. -/
theorem trim_swap (D : List UInt8) : (trimE 48 D).dropWhile (· == 48) = trimE 48 (D.dropWhile (· == 48)) ∧ (trimE 48 (D.dropWhile (· == 48)) ≠ [] → ((D.length : Int) - (trimE 48 D).length) = (((D.dropWhile (· == 48)).length : Int) - (trimE 48 (D.dropWhile (· == 48))).length)) := by
 obtain ⟨j, hj⟩ := dropW_split D
 obtain ⟨m, hm⟩ := trimE_split (D.dropWhile (· == 48))
 generalize hE : D.dropWhile (· == 48) = E at *
 generalize ht : trimE 48 E = t at *
 have hl := trimE_ne E
 rw [ht] at hl
 have hh := dropW_ne D
 rw [hE] at hh
 by_cases h0 : t = []
 ·subst h0
  rw [List.nil_append] at hm
  have hD : D = List.replicate (j + m) 48 := by rw [hj, hm, List.replicate_append_replicate]
  have h1 : trimE 48 D = [] := by
   have := trimE_zeros [] (j + m)
   rw [List.nil_append] at this
   rw [hD, this]; rfl
  rw [h1]
  exact ⟨rfl, fun k => absurd rfl k⟩
 ·have hD : D = (List.replicate j 48 ++ t) ++ List.replicate m 48 := by rw [List.append_assoc, ← hm]; exact hj
  have h1 : trimE 48 D = List.replicate j 48 ++ t := by
   rw [hD, trimE_zeros, trimE_last]
   rw [List.getLast?_append]
   obtain ⟨a, ha⟩ : ∃ a, t.getLast? = some a := ⟨_, List.getLast?_eq_some_getLast h0⟩
   rw [ha] at hl ⊢
   exact hl
  have ht48 : t.dropWhile (· == 48) = t := by
   apply dropW_head
   intro k
   apply hh
   rw [hm]
   cases t with
   | nil => exact absurd rfl h0
   | cons a t => exact k
  rw [h1, dropW_zeros, ht48]
  refine ⟨rfl, fun _ => ?_⟩
  have e1 := congrArg List.length hD
  have e2 := congrArg List.length hm
  simp only [List.length_append, List.length_replicate] at e1 e2
  rw [List.length_append, List.length_replicate]
  omega
/-- The exponent's number, then the noughts. -/
theorem rs_l1 (l wh pt z : List UInt8) (hl : 0 < l.length) (neg : Bool) (hz : ∀ c ∈ z, isD c = true) (hzl : z.length ≤ 6) (hwl : wh.length + pt.length ≤ 4000) : ∀ (r : List UInt8) (i acc k : Nat), z.drop i = r → i ≤ z.length → acc < 10 ^ i → r.length + 2 * (wh.length + pt.length) + 10 < k →
  emendref2_Split.l1 k (B l) (B wh) (B pt) (B z) neg (acc : Int) (i : Int) = some (if trimE 48 ((wh ++ pt).dropWhile (· == 48)) = [] then (false, (⟨#[]⟩ : ByteArray), 0, 0)
   else (l.head? == some 45, B (trimE 48 ((wh ++ pt).dropWhile (· == 48))), (if neg = true then -((decVal acc r : Nat) : Int) else ((decVal acc r : Nat) : Int)) - (pt.length : Int) + ((((wh ++ pt).dropWhile (· == 48)).length : Int) - ((trimE 48 ((wh ++ pt).dropWhile (· == 48))).length : Int)), 0)) := by
 intro r
 induction r with
 | nil =>
  intro i acc k hr hi hacc hk
  have hiz : z.length ≤ i := List.drop_eq_nil_iff.1 hr
  have h6 : 10 ^ i ≤ 10 ^ 6 := Nat.pow_le_pow_right (by decide) (by omega)
  obtain ⟨k, rfl⟩ : ∃ j, k = j + 2 := ⟨k - 2, by omega⟩
  rw [emendref2_Split.l1, if_neg (by rw [B_size]; omega)]
  have hd : decVal acc [] = acc := rfl
  rw [hd]
  obtain ⟨s1, s2⟩ := trim_swap (wh ++ pt)
  have key : ∀ v : Int, -1000000 ≤ v ∧ v ≤ 1000000 → emendref2_Split.j11 (k + 1) (B l) (B wh) (B pt) v = some (if trimE 48 ((wh ++ pt).dropWhile (· == 48)) = [] then (false, (⟨#[]⟩ : ByteArray), 0, 0)
    else (l.head? == some 45, B (trimE 48 ((wh ++ pt).dropWhile (· == 48))), v - (pt.length : Int) + ((((wh ++ pt).dropWhile (· == 48)).length : Int) - ((trimE 48 ((wh ++ pt).dropWhile (· == 48))).length : Int)), 0)) := by
   intro v hv
   rw [emendref2_Split.j11, if_pos (by rw [B_size, B_size]; omega), B_app, B_size, show wrap64 (v - (pt.length : Int)) = v - (pt.length : Int) by unfold wrap64; omega]
   rw [rs_l2 l hl (wh ++ pt).length (wh ++ pt) _ k rfl (by rw [List.length_append]; omega) (by rw [List.length_append]; omega) (by rw [List.length_append]; simp at hk; omega), s1]
   congr 1
   by_cases h0 : trimE 48 ((wh ++ pt).dropWhile (· == 48)) = []
   ·rw [if_pos h0, if_pos h0]
   ·rw [if_neg h0, if_neg h0, s2 h0]
  cases neg with
  | true =>
   rw [if_pos rfl, show wrap64 (-(acc : Int)) = -(acc : Int) by unfold wrap64; omega, key _ (by omega)]
   rfl
  | false =>
   rw [if_neg (by decide), key _ (by omega)]
   rfl
 | cons c r ih =>
  intro i acc k hr hi hacc hk
  simp only [List.length_cons] at hk
  obtain ⟨k, rfl⟩ : ∃ j, k = j + 1 := ⟨k - 1, by omega⟩
  obtain ⟨h1, h2, h3⟩ := bt_drop z i c r hr
  have hc := hz c (by
   have : c ∈ z.drop i := by rw [hr]; exact List.mem_cons_self
   exact List.mem_of_mem_drop this)
  unfold isD at hc
  simp at hc
  have h6 : 10 ^ i ≤ 10 ^ 6 := Nat.pow_le_pow_right (by decide) (by omega)
  have e : wrap64 (wrap64 ((acc : Int) * 10) + ((c.toNat : Int) - 48) % 256) = ((acc * 10 + (c.toNat - 48) : Nat) : Int) := by
   exact acc_step acc c.toNat (by omega) hc
  rw [emendref2_Split.l1, if_pos (by rw [B_size]; omega), if_pos (by omega), h1, e, wrap_s i (by omega)]
  exact ih (i + 1) (acc * 10 + (c.toNat - 48)) k h3 (by omega) (by rw [Nat.pow_succ]; omega) (by omega)
/-- From the exponent's digits on. -/
def finR (l wh pt ed : List UInt8) (neg : Bool) : (Bool × List UInt8 × Int) × Int :=
 if 6 < (ed.dropWhile (· == 48)).length then ((false, [], 0), 5)
 else if trimE 48 ((wh ++ pt).dropWhile (· == 48)) = [] then ((false, [], 0), 0)
 else ((l.head? == some 45, trimE 48 ((wh ++ pt).dropWhile (· == 48)), (if neg = true then -((decVal 0 (ed.dropWhile (· == 48)) : Nat) : Int) else ((decVal 0 (ed.dropWhile (· == 48)) : Nat) : Int)) - (pt.length : Int) + ((((wh ++ pt).dropWhile (· == 48)).length : Int) - ((trimE 48 ((wh ++ pt).dropWhile (· == 48))).length : Int))), 0)
theorem rs_l0 (l wh pt : List UInt8) (hl : 0 < l.length) (neg : Bool) (hwl : wh.length + pt.length ≤ 4000) : ∀ (ed : List UInt8) (k : Nat), (∀ c ∈ ed, isD c = true) → ed.length ≤ 4000 → ed.length + 2 * (wh.length + pt.length) + 20 < k →
  emendref2_Split.l0 k (B l) (B wh) (B pt) (B ed) neg = some (tup (finR l wh pt ed neg)) := by
 have hj9 : ∀ (ed : List UInt8) (k : Nat), (∀ c ∈ ed, isD c = true) → ed.length ≤ 4000 → ed.dropWhile (· == 48) = ed → 2 * (wh.length + pt.length) + 18 < k → emendref2_Split.j9 k (B l) (B wh) (B pt) (B ed) neg = some (tup (finR l wh pt ed neg)) := by
  intro ed k hd hle hdw hk
  obtain ⟨k, rfl⟩ : ∃ j, k = j + 1 := ⟨k - 1, by omega⟩
  rw [emendref2_Split.j9]
  unfold finR
  rw [hdw]
  by_cases h6 : 6 < ed.length
  ·rw [if_pos (by rw [B_size]; omega), if_pos h6]; rfl
  ·rw [if_neg (by rw [B_size]; omega), if_neg h6]
   have := rs_l1 l wh pt ed hl neg hd (by omega) hwl ed 0 0 k rfl (Nat.zero_le _) (by decide) (by omega)
   rw [show ((0 : Nat) : Int) = 0 from rfl] at this
   rw [this]
   congr 1
   by_cases h0 : trimE 48 ((wh ++ pt).dropWhile (· == 48)) = []
   ·rw [if_pos h0, if_pos h0]; rfl
   ·rw [if_neg h0, if_neg h0]; rfl
 intro ed
 induction ed with
 | nil =>
  intro k hd hle hk
  obtain ⟨k, rfl⟩ : ∃ j, k = j + 1 := ⟨k - 1, by omega⟩
  rw [emendref2_Split.l0, if_neg (by decide)]
  exact hj9 [] k hd (by simp) rfl (by simp at hk; omega)
 | cons a ed ih =>
  intro k hd hle hk
  simp only [List.length_cons] at hk hle
  obtain ⟨k, rfl⟩ : ∃ j, k = j + 1 := ⟨k - 1, by omega⟩
  rw [emendref2_Split.l0, if_pos (by rw [B_size, List.length_cons]; omega), if_pos (by rw [B_size, List.length_cons]; omega), B_bt0]
  by_cases h : a = 48
  ·rw [if_pos ((eq_48 a).2 h), if_pos (by rw [B_size, List.length_cons]; omega), B_tail]
   have := ih k (fun c hc => hd c (List.mem_cons_of_mem _ hc)) (by omega) (by omega)
   subst h
   rw [show (48 :: ed).drop 1 = ed from rfl, this]
   unfold finR
   rw [dw48]
  ·rw [if_neg (fun g => h ((eq_48 a).1 g))]
   exact hj9 (a :: ed) k hd (by simp; omega) (by rw [List.dropWhile_cons, if_neg (fun k => h (eq_of_beq k))]) (by omega)
/-! ### The front -/
def badN : (Bool × List UInt8 × Int) × Int := ((false, [], 0), 12)
theorem splitC_fin (l wh pt e : List UInt8) : splitC l (some (l.head? == some 45, wh, pt, e)) = if 1000 < l.length then ((false, [], 0), 2) else finR l wh pt (expD e) (e.head? == some 45) := by
 unfold splitC finR
 simp only
 by_cases h : 1000 < l.length
 ·rw [if_pos h, if_pos h]
 ·rw [if_neg h, if_neg h]
  unfold expN
  by_cases h6 : 6 < ((expD e).dropWhile (· == 48)).length
  ·rw [if_pos h6, if_pos h6]
  ·rw [if_neg h6, if_neg h6]
theorem rs_j7 (l wh pt ed : List UInt8) (hl : 0 < l.length) (hl2 : l.length ≤ 2000) (neg : Bool) (hwl : wh.length + pt.length ≤ 4000) (hd : ∀ c ∈ ed, isD c = true) (hel : ed.length ≤ 4000) (pos k : Nat) (hk : ed.length + 2 * (wh.length + pt.length) + 30 < k) :
  emendref2_Split.j7 k (B l) (pos : Int) (B wh) (B pt) (B ed) neg = some (tup (if pos = l.length then (if 1000 < l.length then ((false, [], 0), 2) else finR l wh pt ed neg) else badN)) := by
 obtain ⟨k, rfl⟩ : ∃ j, k = j + 1 := ⟨k - 1, by omega⟩
 rw [emendref2_Split.j7]
 by_cases h : pos = l.length
 ·rw [if_pos (by rw [B_size]; omega), if_pos h]
  by_cases h1 : 1000 < l.length
  ·rw [if_pos (by rw [B_size]; omega), if_pos h1]; rfl
  ·rw [if_neg (by rw [B_size]; omega), if_neg h1]
   exact rs_l0 l wh pt hl neg hwl ed k hd hel (by omega)
 ·rw [if_neg (by rw [B_size]; omega), if_neg h]; rfl
theorem tw_all2 (E : List UInt8) : ∀ c ∈ E.takeWhile isD, isD c = true := tw_all E
theorem take_tw (l : List UInt8) (q : Nat) (E : List UInt8) (hE : l.drop q = E) : (B l).extract q (q + (E.takeWhile isD).length) = B (E.takeWhile isD) := by
 rw [B_ext, hE, show q + (E.takeWhile isD).length - q = (E.takeWhile isD).length by omega, tw_take]
/-- The exponent's digits begin at q. -/
theorem rs_exp (l wh pt E r : List UInt8) (hl : 0 < l.length) (hl2 : l.length ≤ 2000) (hwl : wh.length + pt.length ≤ 4000) (q k : Nat) (hq : q ≤ l.length) (hE : l.drop q = E) (hr : expD r = E) (hk : 12100 < k) :
  ((emendref2_run.f k (B l) (q : Int)).bind fun t => (if t = (q : Int) then (some (false, (⟨#[]⟩ : ByteArray), (0 : Int), (12 : Int))) else (if 0 ≤ (q : Int) then (if (q : Int) ≤ t then (if t ≤ ((B l).size : Int) then (emendref2_Split.j7 k (B l) t (B wh) (B pt) ((B l).extract ((q : Nat) : Int).toNat (t : Int).toNat) (r.head? == some 45)) else none) else none) else none))) =
   some (tup (splitC l (if E = [] ∨ (E.takeWhile isD).length < E.length then none else some (l.head? == some 45, wh, pt, r)))) := by
 have hEl : q + E.length = l.length := by rw [← hE, List.length_drop]; omega
 have htw := tw_len isD E
 rw [run_h l hl2 E q k hE hq (by omega), Option.bind_some]
 by_cases h0 : (E.takeWhile isD).length = 0
 ·have hc : E = [] ∨ (E.takeWhile isD).length < E.length := by
   by_cases he : E = []
   ·exact .inl he
   ·have := head_one E he; exact .inr (by omega)
  rw [if_pos (by omega), if_pos hc]; rfl
 ·rw [if_neg (by omega), if_pos (by omega), if_pos (by omega), if_pos (by rw [B_size]; omega), Int.toNat_natCast, Int.toNat_natCast, take_tw l q E hE,
   rs_j7 l wh pt _ hl hl2 _ hwl (tw_all E) (by omega) _ k (by omega)]
  by_cases hall : (E.takeWhile isD).length < E.length
  ·rw [if_neg (by omega), if_pos (.inr hall)]; rfl
  ·have hne : ¬ (E = [] ∨ (E.takeWhile isD).length < E.length) := by
    rintro (g | g)
    ·rw [g] at h0; exact h0 rfl
    ·exact hall g
   have het : E.takeWhile isD = E := by
    have := List.takeWhile_append_dropWhile (p := isD) (l := E)
    have h2 := congrArg List.length this
    rw [List.length_append] at h2
    have h3 : E.dropWhile isD = [] := List.eq_nil_of_length_eq_zero (by omega)
    rw [h3, List.append_nil] at this
    exact this
   rw [if_pos (by omega), if_neg hne, splitC_fin, hr, het]
theorem rs_j4 (l wh pt : List UInt8) (hl : 0 < l.length) (hl2 : l.length ≤ 2000) (hwl : wh.length + pt.length ≤ 4000) (pos k : Nat) (r : List UInt8) (hr : l.drop pos = r) (hp : pos ≤ l.length) (hk : 12110 < k) :
  emendref2_Split.j4 k (B l) (pos : Int) (B wh) (B pt) = some (tup (splitC l (cutE (l.head? == some 45) wh pt r))) := by
 obtain ⟨k, rfl⟩ : ∃ j, k = j + 4 := ⟨k - 4, by omega⟩
 have hj5f : ∀ k, 12000 < k → emendref2_Split.j5 k (B l) (pos : Int) (B wh) (B pt) (⟨#[]⟩ : ByteArray) false false = some (tup (if pos = l.length then splitC l (some (l.head? == some 45, wh, pt, [])) else badN)) := by
  intro k hk
  obtain ⟨k, rfl⟩ : ∃ j, k = j + 1 := ⟨k - 1, by omega⟩
  rw [emendref2_Split.j5, if_neg (by decide), show (⟨#[]⟩ : ByteArray) = B [] from rfl, rs_j7 l wh pt [] hl hl2 false hwl (fun c hc => by cases hc) (by simp) pos k (by simp; omega), splitC_fin]
  rfl
 cases r with
 | nil =>
  have : l.length ≤ pos := List.drop_eq_nil_iff.1 hr
  rw [emendref2_Split.j4, if_neg (by rw [B_size]; omega), hj5f _ (by omega), if_pos (by omega)]
  rfl
 | cons c r =>
  obtain ⟨h1, h2, h3⟩ := bt_drop l pos c r hr
  rw [emendref2_Split.j4, if_pos (by rw [B_size]; omega), if_pos (by omega), h1, cutE_cons]
  have hj5t : c = 101 ∨ c = 69 → emendref2_Split.j5 (k + 3) (B l) (pos : Int) (B wh) (B pt) (⟨#[]⟩ : ByteArray) false true = some (tup (splitC l (if (expD r) = [] ∨ ((expD r).takeWhile isD).length < (expD r).length then none else some (l.head? == some 45, wh, pt, r)))) := by
   intro hc
   rw [emendref2_Split.j5, if_pos rfl, wrap_s pos (by omega)]
   have hj6f : (r.head? == some 45) = false → expD r = r → emendref2_Split.j6 (k + 2) (B l) ((pos + 1 : Nat) : Int) (B wh) (B pt) false false = some (tup (splitC l (if (expD r) = [] ∨ ((expD r).takeWhile isD).length < (expD r).length then none else some (l.head? == some 45, wh, pt, r)))) := by
    intro hn he
    rw [emendref2_Split.j6, if_neg (by decide)]
    have := rs_exp l wh pt r r hl hl2 hwl (pos + 1) (k + 1) (by omega) h3 he (by omega)
    rw [hn] at this
    rw [he]
    exact this
   cases r with
   | nil =>
    have : l.length ≤ pos + 1 := List.drop_eq_nil_iff.1 h3
    rw [if_neg (by rw [B_size]; omega)]
    exact hj6f rfl rfl
   | cons s r =>
    obtain ⟨g1, g2, g3⟩ := bt_drop l (pos + 1) s r h3
    rw [if_pos (by rw [B_size]; omega), if_pos (by omega), g1]
    have hj6t : (s = 45 ∨ s = 43) → emendref2_Split.j6 (k + 2) (B l) ((pos + 1 : Nat) : Int) (B wh) (B pt) false true = some (tup (splitC l (if (expD (s :: r)) = [] ∨ ((expD (s :: r)).takeWhile isD).length < (expD (s :: r)).length then none else some (l.head? == some 45, wh, pt, s :: r)))) := by
     intro hs
     have he : expD (s :: r) = r := by
      unfold expD
      rw [if_pos]
      ·rfl
      ·rcases hs with rfl | rfl
       ·exact .inl rfl
       ·exact .inr rfl
     have hb : ((s.toNat : Int) == 45) = ((s :: r).head? == some 45) := by
      have h5 := beq_dec s 45 45 rfl
      rw [show ((45 : Nat) : Int) = 45 from rfl] at h5
      rw [h5]
      rfl
     rw [emendref2_Split.j6, if_pos rfl, if_pos (by omega), if_pos (by rw [B_size]; omega), wrap_s (pos + 1) (by omega), g1, hb]
     have := rs_exp l wh pt r (s :: r) hl hl2 hwl (pos + 1 + 1) (k + 1) (by omega) g3 he (by omega)
     rw [he]
     exact this
    by_cases hs43 : s = 43
    ·rw [if_pos ((eq_43 s).2 hs43)]
     exact hj6t (.inr hs43)
    ·rw [if_neg (fun g => hs43 ((eq_43 s).1 g))]
     by_cases hs45 : s = 45
     ·rw [beq_iff_eq.2 ((eq_45 s).2 hs45)]
      exact hj6t (.inl hs45)
     ·rw [beq_eq_false_iff_ne.2 (fun g => hs45 ((eq_45 s).1 g))]
      refine hj6f ?_ ?_
      ·exact beq_eq_false_iff_ne.2 (fun g => hs45 (by rw [List.head?_cons] at g; injection g))
      ·unfold expD
       rw [if_neg]
       rintro (g | g) <;> (rw [List.head?_cons] at g; injection g with g)
       ·exact hs45 g
       ·exact hs43 g
  have hE : (if r.head? = some 45 ∨ r.head? = some 43 then r.tail else r) = expD r := rfl
  rw [hE]
  by_cases hc1 : c = 101
  ·rw [if_pos ((eq_101 c).2 hc1), if_pos (.inl hc1)]
   exact hj5t (.inl hc1)
  ·rw [if_neg (fun g => hc1 ((eq_101 c).1 g))]
   by_cases hc2 : c = 69
   ·rw [beq_iff_eq.2 ((eq_69 c).2 hc2), if_pos (.inr hc2)]
    exact hj5t (.inr hc2)
   ·rw [beq_eq_false_iff_ne.2 (fun g => hc2 ((eq_69 c).1 g)), if_neg (fun g => g.elim hc1 hc2), hj5f _ (by omega), if_neg (by omega)]
    rfl
theorem drop_tw (l : List UInt8) (q : Nat) (E : List UInt8) (hE : l.drop q = E) : l.drop (q + (E.takeWhile isD).length) = E.dropWhile isD := by
 rw [← List.drop_drop, hE, tw_drop]
theorem rs_j1 (l : List UInt8) (hl : 0 < l.length) (hl2 : l.length ≤ 2000) (p k : Nat) (s : List UInt8) (hs : l.drop p = s) (hp : p ≤ l.length) (hk : 12130 < k) :
  emendref2_Split.j1 k (B l) (p : Int) = some (tup (splitC l (cutS (l.head? == some 45) s))) := by
 have hsl : p + s.length = l.length := by rw [← hs, List.length_drop]; omega
 have htw := tw_len isD s
 obtain ⟨k, rfl⟩ : ∃ j, k = j + 1 := ⟨k - 1, by omega⟩
 rw [emendref2_Split.j1, run_h l hl2 s p k hs hp (by omega), Option.bind_some]
 have hj2 : ∀ (b : Bool), b = decide ((s.takeWhile isD).length = 0 ∨ (1 < (s.takeWhile isD).length ∧ s.head? = some 48)) → emendref2_Split.j2 k (B l) (p : Int) ((p + (s.takeWhile isD).length : Nat) : Int) b = some (tup (splitC l (cutS (l.head? == some 45) s))) := by
  intro b hb
  obtain ⟨k, rfl⟩ : ∃ j, k = j + 2 := ⟨k - 2, by omega⟩
  rw [emendref2_Split.j2]
  unfold cutS
  by_cases hbad : (s.takeWhile isD).length = 0 ∨ (1 < (s.takeWhile isD).length ∧ s.head? = some 48)
  ·rw [if_pos (by rw [hb]; exact decide_eq_true hbad), if_pos hbad]; rfl
  ·have hr := drop_tw l p s hs
   have hx := take_tw l p s hs
   rw [if_neg (by rw [hb, decide_eq_false hbad]; decide), if_neg hbad, if_pos (by omega), if_pos (by omega), if_pos (by rw [B_size]; omega), Int.toNat_natCast, Int.toNat_natCast, hx]
   generalize hW : s.takeWhile isD = W at *
   generalize hR : s.dropWhile isD = R at *
   have hRl : p + W.length + R.length = l.length := by rw [← hr, List.length_drop]; omega
   have hj3 : ∀ b : Bool, b = (R.head? == some 46) → emendref2_Split.j3 (k + 1) (B l) ((p + W.length : Nat) : Int) (B W) (⟨#[]⟩ : ByteArray) b = some (tup (splitC l (if R.head? = some 46 then (if (R.tail.takeWhile isD).length = 0 then none else cutE (l.head? == some 45) W (R.tail.takeWhile isD) (R.tail.dropWhile isD)) else cutE (l.head? == some 45) W [] R))) := by
    intro b hb
    rw [emendref2_Split.j3]
    by_cases h46 : R.head? = some 46
    ·rw [if_pos (by rw [hb, h46]; rfl), if_pos h46, wrap_s _ (by omega)]
     obtain ⟨T, rfl⟩ : ∃ T, R = 46 :: T := by
      cases R with
      | nil => cases h46
      | cons a T => injection h46 with h46; exact ⟨T, by rw [h46]⟩
     obtain ⟨g1, g2, g3⟩ := bt_drop l (p + W.length) 46 T hr
     rw [List.tail_cons]
     have hT := tw_len isD T
     have hTl : p + W.length + 1 + T.length = l.length := by simp only [List.length_cons] at hRl; omega
     rw [run_h l hl2 T (p + W.length + 1) k g3 (by omega) (by omega), Option.bind_some]
     by_cases h0 : (T.takeWhile isD).length = 0
     ·rw [if_pos (by omega), if_pos h0]; rfl
     ·rw [if_neg (by omega), if_neg h0, if_pos (by omega), if_pos (by omega), if_pos (by rw [B_size]; omega), Int.toNat_natCast, Int.toNat_natCast, take_tw l _ T g3]
      exact rs_j4 l W (T.takeWhile isD) hl hl2 (by omega) (p + W.length + 1 + (T.takeWhile isD).length) k (T.dropWhile isD) (drop_tw l _ T g3) (by omega) (by omega)
    ·rw [if_neg (by rw [hb]; intro g; exact h46 (eq_of_beq g)), if_neg h46, show (⟨#[]⟩ : ByteArray) = B [] from rfl]
     exact rs_j4 l W [] hl hl2 (by simp; omega) (p + W.length) k R hr (by omega) (by omega)
   cases R with
   | nil =>
    simp only [List.length_nil] at hRl
    rw [if_neg (by rw [B_size]; omega)]
    exact hj3 false rfl
   | cons c R =>
    obtain ⟨g1, g2, g3⟩ := bt_drop l (p + W.length) c R hr
    rw [if_pos (by rw [B_size]; omega), if_pos (by omega), g1]
    refine hj3 _ ?_
    have h6 := beq_dec c 46 46 rfl
    rw [show ((46 : Nat) : Int) = 46 from rfl] at h6
    rw [h6]
    rfl
 by_cases h0 : (s.takeWhile isD).length = 0
 ·rw [if_pos (by omega)]
  exact hj2 true (decide_eq_true (.inl h0)).symm
 ·rw [if_neg (by omega)]
  cases s with
  | nil => exact absurd rfl h0
  | cons a s =>
   obtain ⟨g1, g2, g3⟩ := bt_drop l p a s hs
   rw [if_pos (by omega), if_pos (by rw [B_size]; omega), g1]
   by_cases h48 : a = 48
   ·rw [if_pos ((eq_48 a).2 h48), wrap_s p (by omega)]
    refine hj2 _ ?_
    congr 1
    subst h48
    refine propext ⟨fun g => .inr ⟨by omega, rfl⟩, ?_⟩
    rintro (g | ⟨g, _⟩)
    ·exact absurd g h0
    ·omega
   ·rw [if_neg (fun g => h48 ((eq_48 a).1 g))]
    refine hj2 _ ?_
    symm
    apply decide_eq_false
    rintro (g | ⟨_, g⟩)
    ·exact h0 g
    ·injection g with g; exact h48 g
theorem refSplit_f (l : List UInt8) (hl2 : l.length ≤ 2000) : emendref2_Split.f 13000 (B l) = some (tup (splitL l)) := by
 unfold emendref2_Split.f
 cases l with
 | nil =>
  rw [if_neg (by decide), emendref2_Split.j0, if_neg (by decide), emendref2_Split.j1]
  have hr := run_h [] (by simp) [] 0 12998 rfl (by simp) (by simp)
  rw [show ((0 : Nat) : Int) = 0 from rfl] at hr
  rw [hr]
  rfl
 | cons a l =>
  have hp : 0 < (a :: l).length := by simp
  have h5 := beq_dec a 45 45 rfl
  rw [show ((45 : Nat) : Int) = 45 from rfl] at h5
  rw [if_pos (by rw [B_size, List.length_cons]; omega), B_bt0, h5, emendref2_Split.j0]
  unfold splitL cutL
  have hn : ((a :: l).head? == some 45) = decide (a = 45) := rfl
  by_cases h : a = 45
  ·subst h
   rw [if_pos (by decide), if_pos (show (45 :: l).head? = some 45 from rfl), show wrap64 (0 + 1) = ((1 : Nat) : Int) by unfold wrap64; omega]
   have := rs_j1 (45 :: l) hp hl2 1 12999 l rfl (by simp) (by omega)
   rw [hn] at this
   exact this
  ·rw [if_neg (by rw [decide_eq_false h]; decide), if_neg (by intro g; injection g with g; exact h g)]
   have := rs_j1 (a :: l) hp hl2 0 12999 (a :: l) rfl (by simp) (by omega)
   rw [hn, decide_eq_false h] at this
   exact this
theorem digit_j (c : UInt8) : emendref2_digit.f (c.toNat : Int) = some (isD c) := by
 unfold emendref2_digit.f isD
 by_cases h : (48 : Nat) ≤ c.toNat
 ·rw [if_pos (by omega)]
  by_cases h1 : c.toNat ≤ 57
  ·have h2 : (c.toNat : Int) ≤ 57 := by omega
   simp [h, h1, h2]
  ·have h2 : ¬ (c.toNat : Int) ≤ 57 := by omega
   simp [h, h1, h2]
 ·rw [if_neg (by omega)]; simp [h]
theorem rj_loop (d : List UInt8) (n : Bool) (x : Int) (hl : d.length ≤ 2000) : ∀ (m : List UInt8) (i k : Nat), d.drop i = m → i + m.length = d.length → m.length < k →
  emendref2_Join.l0 k (d.length : Int) (i : Int) n (B d) x = if (m.takeWhile isD).length < m.length then some (⟨#[]⟩, 1) else emendref2_Join.l0 (k - m.length) (d.length : Int) (d.length : Int) n (B d) x := by
 intro m
 induction m with
 | nil =>
  intro i k hm hi hk
  have : i = d.length := by simpa using hi
  subst this
  simp
 | cons c m ih =>
  intro i k hm hi hk
  simp only [List.length_cons] at hi hk
  obtain ⟨k, rfl⟩ : ∃ j, k = j + 1 := ⟨k - 1, by omega⟩
  have hlt : i < d.length := by omega
  have hc : d.getD i 0 = c := by
   have := congrArg (fun x : List UInt8 => x[0]?) hm
   simp [List.getElem?_drop] at this
   rw [List.getD_eq_getElem?_getD, this]; rfl
  have hd : d.drop (i + 1) = m := by rw [← List.drop_drop, hm]; rfl
  rw [emendref2_Join.l0, if_pos (by omega), if_pos (by omega), if_pos (by rw [B_size]; omega), B_bt, hc, digit_j, Option.bind_some]
  cases hdc : isD c with
  | false =>
   rw [if_neg (by decide), if_pos (by simp [List.takeWhile_cons, hdc])]
  | true =>
   rw [if_pos rfl, show wrap64 ((i : Int) + 1) = ((i + 1 : Nat) : Int) by unfold wrap64; omega, ih (i + 1) k hd (by omega) (by omega), List.takeWhile_cons, hdc]
   simp only [if_true, List.length_cons]
   rw [show k + 1 - (m.length + 1) = k - m.length by omega]
   by_cases h : (m.takeWhile isD).length < m.length
   ·rw [if_pos h, if_pos (by omega)]
   ·rw [if_neg h, if_neg (by omega)]
/-- The walk's end, behind the digits' test. -/
theorem rj_j3 (k : Nat) (s d : List UInt8) (n : Bool) (x : Int) (hs : s.length ≤ 3000) (hx : -9223372036854775808 ≤ x ∧ x ≤ 9223372036854775807) :
  emendref2_Join.j3 (k + 1) (B s) n (B d) x = some (if 1000 < (s ++ (if x ≠ 0 then 101 :: Lib.itoa x else [])).length then (⟨#[]⟩, 2) else (B (s ++ (if x ≠ 0 then 101 :: Lib.itoa x else [])), 0)) := by
 rw [emendref2_Join.j3]
 by_cases h : x = 0
 ·have e0 : (if x ≠ 0 then 101 :: Lib.itoa x else []) = [] := if_neg (fun g => g h)
  rw [if_pos h, e0, List.append_nil]
  by_cases h1 : 1000 < s.length
  ·rw [if_pos (by rw [B_size]; omega), if_pos h1]
  ·rw [if_neg (by rw [B_size]; omega), if_neg h1]
 ·have hil := Lib.itoa_length_le x hx.1 hx.2
  have e1 : B s ++ (⟨#[101]⟩ : ByteArray) = B (s ++ [101]) := B_app s [101]
  have e0 : (if x ≠ 0 then 101 :: Lib.itoa x else []) = 101 :: Lib.itoa x := if_pos h
  unfold emendref2_Decimal.f
  rw [if_neg h, if_pos (by rw [B_size]; omega), if_pos hx, Option.bind_some, e1, B_app, if_pos (by rw [B_size, B_size, List.length_append]; simp; omega), e0]
  have e2 : s ++ [101] ++ Lib.itoa x = s ++ 101 :: Lib.itoa x := by simp
  rw [e2]
  by_cases h1 : 1000 < (s ++ 101 :: Lib.itoa x).length
  ·rw [if_pos (by rw [B_size]; omega), if_pos h1]
  ·rw [if_neg (by rw [B_size]; omega), if_neg h1]
theorem pair_if (c : Prop) [Decidable c] (s : List UInt8) : some (if c then ((⟨#[]⟩ : ByteArray), (2 : Int)) else (B s, 0)) = some (B (if c then (([] : List UInt8), (2 : Int)) else (s, 0)).1, (if c then (([] : List UInt8), (2 : Int)) else (s, 0)).2) := by
 by_cases h : c
 ·simp only [if_pos h]; rfl
 ·simp only [if_neg h]
theorem rj_j2 (k : Nat) (d : List UInt8) (n : Bool) (x : Int) (hd : d.length ≤ 2000) (hx : -9223372036854775808 ≤ x ∧ x ≤ 9223372036854775807) (b : Bool) (hb : b = decide (x < -999999 ∨ 999999 < x)) (hbad : ¬ joinBad (n, d, x)) :
  emendref2_Join.j2 (k + 2) (d.length : Int) b n (B d) x = some (B (joinL (n, d, x)).1, (joinL (n, d, x)).2) := by
 rw [emendref2_Join.j2]
 unfold joinL
 rw [if_neg hbad]
 simp only
 by_cases h : x < -999999 ∨ 999999 < x
 ·rw [if_pos (by rw [hb]; exact decide_eq_true h), if_pos h]; rfl
 ·rw [if_neg (by rw [hb, decide_eq_false h]; decide), if_neg h]
  by_cases h0 : d.length = 0
  ·rw [if_pos (by omega), if_pos h0]; rfl
  ·rw [if_neg (by omega), if_neg h0]
   unfold joinS
   simp only
   cases n with
   | true =>
    rw [if_pos rfl, if_pos (by rw [B_size]; omega), show (⟨#[45]⟩ : ByteArray) ++ B d = B (45 :: d) from B_app [45] d, rj_j3 k (45 :: d) d true x (by simp; omega) hx]
    simp only [if_true]
    exact pair_if _ _
   | false =>
    rw [if_neg (by decide), rj_j3 k d d false x (by omega) hx]
    simp only [Bool.false_eq_true, if_false]
    exact pair_if _ _
theorem rj_j1 (k : Nat) (d : List UInt8) (n : Bool) (x : Int) (hd : d.length ≤ 2000) (hx : -9223372036854775808 ≤ x ∧ x ≤ 9223372036854775807) (b : Bool) (hb : b = decide (joinBad (n, d, x))) :
  emendref2_Join.j1 (k + 3) (d.length : Int) b n (B d) x = some (B (joinL (n, d, x)).1, (joinL (n, d, x)).2) := by
 rw [emendref2_Join.j1]
 by_cases h : joinBad (n, d, x)
 ·rw [if_pos (by rw [hb]; exact decide_eq_true h)]
  unfold joinL
  rw [if_pos h]; rfl
 ·rw [if_neg (by rw [hb, decide_eq_false h]; decide)]
  by_cases h1 : x > 999999
  ·rw [if_pos h1]; exact rj_j2 k d n x hd hx true (decide_eq_true (.inr h1)).symm h
  ·rw [if_neg h1]
   refine rj_j2 k d n x hd hx _ ?_ h
   congr 1
   exact propext ⟨fun g => .inl g, fun g => g.resolve_right h1⟩
theorem refJoin_f (d : List UInt8) (n : Bool) (x : Int) (hd : d.length ≤ 2000) (hx : -9223372036854775808 ≤ x ∧ x ≤ 9223372036854775807) :
  emendref2_Join.f 3000 n (B d) x = some (B (joinL (n, d, x)).1, (joinL (n, d, x)).2) := by
 unfold emendref2_Join.f
 rw [B_size]
 have h := rj_loop d n x hd d 0 3000 rfl (by omega) (by omega)
 rw [show ((0 : Nat) : Int) = 0 from rfl] at h
 rw [h]
 by_cases hA : (d.takeWhile isD).length < d.length
 ·rw [if_pos hA]
  unfold joinL
  rw [if_pos (.inl hA)]; rfl
 ·rw [if_neg hA]
  obtain ⟨k, hk⟩ : ∃ k, 3000 - d.length = k + 4 := ⟨3000 - d.length - 4, by omega⟩
  rw [hk, emendref2_Join.l0, if_neg (by omega)]
  by_cases hz : d.length = 0
  ·rw [if_pos (by omega)]
   have hj : ∀ b, b = decide (x ≠ 0 ∨ n = true) → b = decide (joinBad (n, d, x)) := by
    rintro b rfl
    congr 1
    refine propext ⟨fun g => .inr (.inr ⟨hz, g⟩), ?_⟩
    rintro (g | ⟨g, _⟩ | ⟨_, g⟩)
    ·exact absurd g hA
    ·exact absurd (show 0 < d.length from g) (by omega)
    ·exact g
   by_cases h0 : x = 0
   ·rw [if_pos h0]
    cases n with
    | true => rw [if_pos rfl]; exact rj_j1 k d true x hd hx true (hj true (by simp))
    | false => rw [if_neg (by decide), if_neg (by omega)]; exact rj_j1 k d false x hd hx false (hj false (by simp [h0]))
   ·rw [if_neg h0]; exact rj_j1 k d n x hd hx true (hj true (by simp [h0]))
  ·rw [if_neg (by omega), if_pos (by omega), if_pos (by rw [B_size]; omega)]
   have hp : 0 < d.length := by omega
   have hj : ∀ b, b = decide (d.head? = some 48 ∨ d.getLast? = some 48) → b = decide (joinBad (n, d, x)) := by
    rintro b rfl
    congr 1
    refine propext ⟨fun g => .inr (.inl ⟨hp, g⟩), ?_⟩
    rintro (g | ⟨_, g⟩ | ⟨g, _⟩)
    ·exact absurd g hA
    ·exact g
    ·exact absurd (show d.length = 0 from g) hz
   have hhead : d.head? = some (d.getD 0 0) := by
    cases d with | nil => simp at hp | cons a d => rfl
   have hlast : d.getLast? = some (d.getD (d.length - 1) 0) := by
    rw [List.getLast?_eq_getElem?, List.getD_eq_getElem?_getD, List.getElem?_eq_getElem (by omega)]; rfl
   have eq48 : ∀ c : UInt8, ((c.toNat : Int) = 48) ↔ c = 48 := fun c => ⟨fun h => UInt8.toNat_inj.1 (by show c.toNat = 48; omega), fun h => by subst h; rfl⟩
   have hb0 := B_bt d 0
   rw [show ((0 : Nat) : Int) = 0 from rfl] at hb0
   rw [hb0]
   by_cases h48 : ((d.getD 0 0).toNat : Int) = 48
   ·rw [if_pos h48]; exact rj_j1 k d n x hd hx true (hj true (decide_eq_true (.inl (by rw [hhead, (eq48 _).1 h48]))).symm)
   ·rw [if_neg h48, show wrap64 ((d.length : Int) - 1) = ((d.length - 1 : Nat) : Int) by unfold wrap64; omega, if_pos (by omega), if_pos (by rw [B_size]; omega), B_bt]
    refine rj_j1 k d n x hd hx _ (hj _ ?_)
    have h0 : ¬ d.head? = some 48 := fun g => h48 ((eq48 _).2 (by rw [hhead] at g; injection g))
    by_cases hL : ((d.getD (d.length - 1) 0).toNat : Int) = 48
    ·rw [decide_eq_true (p := d.head? = some 48 ∨ d.getLast? = some 48) (.inr (by rw [hlast, (eq48 _).1 hL]))]
     simpa using hL
    ·rw [decide_eq_false (p := d.head? = some 48 ∨ d.getLast? = some 48) (fun g => g.elim h0 (fun g => hL ((eq48 _).2 (by rw [hlast] at g; injection g))))]
     simpa using hL
theorem refSplit_any (l : List UInt8) (hl : l.length ≤ 2000) (w : World) : Calls Tryz.prog 9 #[.string (B l)] w fun e w' => e = .returned (.tuple #[.agg (partsV (splitL l).1), .int .i64 (splitL l).2]) ∧ Below w.heap.size w w' :=
 emendref2_Split.calls 13000 (B l) (splitL l).1.1 (B (splitL l).1.2.1) (splitL l).1.2.2 (splitL l).2 w (refSplit_f l hl)
theorem splitL_small (l : List UInt8) (h : (splitL l).2 = 0) : l.length ≤ 1000 := by
 unfold splitL at h
 cases hc : cutL l with
 | none => rw [hc] at h; cases h
 | some y =>
  obtain ⟨n, wh, pt, e⟩ := y
  rw [hc] at h
  unfold splitC at h
  simp only at h
  by_cases h1 : 1000 < l.length
  ·rw [if_pos h1] at h; cases h
  ·omega
theorem refNormal_f (l : List UInt8) (hl : l.length ≤ 2000) : emendref2_Normal.f 13000 (B l) = some (B (normL l).1, (normL l).2) := by
 unfold emendref2_Normal.f
 rw [refSplit_f l hl, Option.bind_some]
 unfold tup normL
 simp only
 by_cases h : (splitL l).2 = 0
 ·have hs := splitL_small l h
  obtain ⟨b1, b2, b3⟩ := splitL_bounds l (by omega)
  have hm : ∀ k, 3000 ≤ k → ∀ (n : Bool) (d : List UInt8) (x : Int), d.length ≤ 2000 → -9223372036854775808 ≤ x ∧ x ≤ 9223372036854775807 → emendref2_Join.f k n (B d) x = some (B (joinL (n, d, x)).1, (joinL (n, d, x)).2) := by
   intro k hk n d x hd hx
   obtain ⟨j, rfl⟩ : ∃ j, k = 3000 + j := ⟨k - 3000, by omega⟩
   clear hk
   induction j with
   | zero => exact refJoin_f d n x hd hx
   | succ j ih => exact emendref2_Join.mono n (B d) x (3000 + j) _ ih
  rw [if_pos h, if_neg (fun k => k h), hm 13000 (by omega) _ _ _ (by omega) (by omega), Option.bind_some]
 ·rw [if_neg h, if_pos h]; rfl
theorem refNormal_any (l : List UInt8) (hl : l.length ≤ 2000) (w : World) : Calls Tryz.prog 11 #[.string (B l)] w fun e w' => e = .returned (.tuple #[.string (B (normL l).1), .int .i64 (normL l).2]) ∧ Below w.heap.size w w' :=
 emendref2_Normal.calls 13000 (B l) (B (normL l).1) (normL l).2 w (refNormal_f l hl)
theorem few_w (l : List UInt8) (n : Nat) : emendlaw2_few.f (B l) (n : Int) = some (B (l.take n)) := by
 unfold emendlaw2_few.f
 by_cases h : n < l.length
 ·rw [if_pos (by rw [B_size]; omega), if_pos (by omega), if_pos (by rw [B_size]; omega), Int.toNat_natCast, B_head]
 ·rw [if_neg (by rw [B_size]; omega), List.take_of_length_le (by omega)]
theorem leo_up {α : Type} (f : Nat → Option α) (h : ∀ k, LeO (f k) (f (k + 1))) (a : Nat) (r : α) (ha : f a = some r) : ∀ m, f (a + m) = some r
 | 0 => ha
 | m + 1 => h (a + m) r (leo_up f h a r ha m)
theorem digits_s : ∀ (n : Nat), n ≤ 9223372036854775807 → emendref2_Digits.f 100 (n : Int) = some (B (Lib.decDigits n)) := by
 have hl1 : ∀ (k : Nat) x y z, emendref2_Digits.l1 k x y z = Go.Proofs.YtjaongknagmfiaaGreatDoor.PT.emendref2_Digits.l1 k x y z := by
  intro k
  induction k with
  | zero => intro x y z; rfl
  | succ k ih => intro x y z; simp only [emendref2_Digits.l1, Go.Proofs.YtjaongknagmfiaaGreatDoor.PT.emendref2_Digits.l1, ih]
 have hl0 : ∀ (k : Nat) x y, emendref2_Digits.l0 k x y = Go.Proofs.YtjaongknagmfiaaGreatDoor.PT.emendref2_Digits.l0 k x y := by
  intro k
  induction k with
  | zero => intro x y; rfl
  | succ k ih => intro x y; simp only [emendref2_Digits.l0, Go.Proofs.YtjaongknagmfiaaGreatDoor.PT.emendref2_Digits.l0, ih, hl1]
 intro n h
 have := digits_f n h
 unfold Go.Proofs.YtjaongknagmfiaaGreatDoor.PT.emendref2_Digits.f at this
 unfold emendref2_Digits.f
 rw [hl0]
 exact this
theorem digits_w (n : Nat) (h : n ≤ 9223372036854775807) (k : Nat) (hk : 100 ≤ k) : emendref2_Digits.f k (n : Int) = some (B (Lib.decDigits n)) := by
 have := leo_up (fun k => emendref2_Digits.f k (n : Int)) (fun k => emendref2_Digits.mono _ k) 100 _ (digits_s n h) (k - 100)
 simpa [show 100 + (k - 100) = k by omega] using this
theorem normal_w (l : List UInt8) (hl : l.length ≤ 2000) (k : Nat) (hk : 13000 ≤ k) : emendref2_Normal.f k (B l) = some (B (normL l).1, (normL l).2) := by
 have := leo_up (fun k => emendref2_Normal.f k (B l)) (fun k => emendref2_Normal.mono _ k) 13000 _ (refNormal_f l hl) (k - 13000)
 simpa [show 13000 + (k - 13000) = k by omega] using this
theorem value_w (b : Nat) (hb : b = 2 ∨ b = 8 ∨ b = 16) (c : UInt8) (k : Nat) (hk : 10 ≤ k) : emendref2_value.f k (c.toNat : Int) (b : Int) = some (if valN c < b then (valN c : Int) else -1) := by
 have h0 : emendref2_value.f 10 (c.toNat : Int) (b : Int) = some (if valN c < b then (valN c : Int) else -1) := by
  rcases hb with rfl | rfl | rfl
  ·have h : ∀ n : Fin 256, emendref2_value.f 10 ((UInt8.ofNat n.val).toNat : Int) ((2 : Nat) : Int) = some (if valN (UInt8.ofNat n.val) < 2 then (valN (UInt8.ofNat n.val) : Int) else -1) := by decide +kernel
   have h1 := h ⟨c.toNat, c.toNat_lt⟩
   simp only [UInt8.ofNat_toNat] at h1
   exact h1
  ·have h : ∀ n : Fin 256, emendref2_value.f 10 ((UInt8.ofNat n.val).toNat : Int) ((8 : Nat) : Int) = some (if valN (UInt8.ofNat n.val) < 8 then (valN (UInt8.ofNat n.val) : Int) else -1) := by decide +kernel
   have h1 := h ⟨c.toNat, c.toNat_lt⟩
   simp only [UInt8.ofNat_toNat] at h1
   exact h1
  ·have h : ∀ n : Fin 256, emendref2_value.f 10 ((UInt8.ofNat n.val).toNat : Int) ((16 : Nat) : Int) = some (if valN (UInt8.ofNat n.val) < 16 then (valN (UInt8.ofNat n.val) : Int) else -1) := by decide +kernel
   have h1 := h ⟨c.toNat, c.toNat_lt⟩
   simp only [UInt8.ofNat_toNat] at h1
   exact h1
 have := leo_up (fun k => emendref2_value.f k (c.toNat : Int) (b : Int)) (fun k => emendref2_value.mono _ _ k) 10 _ h0 (k - 10)
 simpa [show 10 + (k - 10) = k by omega] using this
theorem wrun_none (s b : Nat) (hs : 2 ^ s = b) (c : UInt8) (r : List UInt8) (n : Nat) (far sn : Bool) (h : ¬ (c = 95 ∧ sn = true ∧ r ≠ [])) (hv : ¬ valN c < b) : wrun s (c :: r) n far sn = none := by
 rw [wrun, if_neg h, if_pos (by omega)]
theorem wrun_digit (s b : Nat) (hs : 2 ^ s = b) (hb : b ≤ 16) (c : UInt8) (r : List UInt8) (n : Nat) (far sn : Bool) (hv : valN c < b) : wrun s (c :: r) n far sn = wrun s r (n * b % 18446744073709551616 + valN c) (far || decide (n / 2 ^ (63 - s) ≠ 0)) true := by
 have hc : ¬ c = 95 := by
  rintro rfl
  have : valN 95 = 16 := by decide
  omega
 rw [wrun, if_neg (fun k => hc k.1), if_neg (by omega), hs]
theorem wrun_far (s : Nat) : ∀ (l : List UInt8) n sn n' far' sn', wrun s l n true sn = some (n', far', sn') → far' = true
 | [], n, sn, n', far', sn', h => by
  rw [wrun] at h
  injection h with h; injection h with _ h; injection h with h _; exact h.symm
 | c :: r, n, sn, n', far', sn', h => by
  rw [wrun] at h
  split at h
  ·exact wrun_far s r _ _ _ _ _ h
  ·split at h
   ·cases h
   ·rw [Bool.true_or] at h
    exact wrun_far s r _ _ _ _ _ h
theorem wrun_seen (s : Nat) : ∀ (l : List UInt8) n far sn n' far' sn', l ≠ [] → wrun s l n far sn = some (n', far', sn') → sn' = true
 | [], n, far, sn, n', far', sn', h0, h => absurd rfl h0
 | c :: r, n, far, sn, n', far', sn', h0, h => by
  rw [wrun] at h
  split at h
  next hc => exact wrun_seen s r _ _ _ _ _ _ hc.2.2 h
  next hc =>
   split at h
   ·cases h
   ·cases r with
    | nil =>
     rw [wrun] at h
     injection h with h; injection h with _ h; injection h with _ h; exact h.symm
    | cons d r => exact wrun_seen s (d :: r) _ _ _ _ _ _ (by simp) h
theorem whole_l0 (s b : Nat) (hs : 2 ^ s = b) (hb : b = 2 ∨ b = 8 ∨ b = 16) (l : List UInt8) (hl : l.length ≤ 2000) (K : Nat) (hK : 10 ≤ K) : ∀ (m i : Nat) (sn : Bool) (n : Nat) (far : Bool), i + m = l.length →
  ((i = 0 ∧ sn = false) ∨ ∃ c : UInt8, 0 < i ∧ bt (B l) ((i : Int) - 1) = (c.toNat : Int) ∧ sn = decide (valN c < b)) →
  emendref2_Whole.l0 (m + K + 1) (B l) (b : Int) (i : Int) = (match wrun s (l.drop i) n far sn with | none => some (B [], 12) | some _ => if l.length = 0 then some (B [], 12) else emendref2_Whole.l1 K (B l) (b : Int) 0 0) := by
 have hb16 : b ≤ 16 := by omega
 have W0 := wrun_none s b hs
 have W1 := wrun_digit s b hs hb16
 clear hs
 have HV := value_w b hb
 intro m
 induction m with
 | zero =>
  intro i sn n far hi _
  rw [List.drop_eq_nil_of_le (by omega), wrun, Nat.zero_add, emendref2_Whole.l0, if_neg (by rw [B_size]; omega)]
  simp only
  by_cases h : l.length = 0
  ·rw [if_pos h, if_pos (by rw [B_size]; omega)]; rfl
  ·rw [if_neg h, if_neg (by rw [B_size]; omega)]
 | succ m ih =>
  intro i sn n far hi hp
  obtain ⟨c, r, hcr⟩ : ∃ c r, l.drop i = c :: r := by
   cases h : l.drop i with
   | nil => have := congrArg List.length h; rw [List.length_drop] at this; simp at this; omega
   | cons c r => exact ⟨c, r, rfl⟩
  obtain ⟨h1, h2, h3⟩ := bt_drop l i c r hcr
  have v95 : valN 95 = 16 := by decide
  have hz : emendref2_value.f (m + K + 1) ((95 : UInt8).toNat : Int) (b : Int) = some (-1) := by rw [HV 95 _ (by omega), if_neg (by omega)]
  have hw1 : wrap64 ((i : Int) + 1) = ((i + 1 : Nat) : Int) := by unfold wrap64; omega
  rw [hcr, show m + 1 + K + 1 = (m + K + 1) + 1 by omega, emendref2_Whole.l0, if_pos (by rw [B_size]; omega), if_pos (by omega), h1]
  by_cases hc : c = 95
  ·subst hc
   rw [if_pos (show (((95 : UInt8).toNat : Int) = 95) from rfl)]
   rcases hp with ⟨hi0, hsn⟩ | ⟨p, hi0, hbp, hsn⟩
   ·rw [if_neg (by omega), hz, Option.bind_some, if_pos (by decide), W0 95 r n far sn (by rw [hsn]; simp) (by omega)]; rfl
   ·rw [if_pos (by omega), hw1]
    by_cases hr : r = []
    ·have : i + 1 = l.length := by
      have := congrArg List.length h3; rw [List.length_drop, hr] at this; simp at this; omega
     rw [if_neg (by rw [B_size]; omega), hz, Option.bind_some, if_pos (by decide), W0 95 r n far sn (by rw [hr]; simp) (by omega)]; rfl
    ·obtain ⟨d, q, hdq⟩ : ∃ d q, r = d :: q := by
      cases r with
      | nil => exact absurd rfl hr
      | cons d q => exact ⟨d, q, rfl⟩
     obtain ⟨g1, g2, g3⟩ := bt_drop l (i + 1) d q (h3.trans hdq)
     have hw2 : wrap64 ((i : Int) - 1) = (i : Int) - 1 := by unfold wrap64; omega
     rw [if_pos (by rw [B_size]; omega), hw2, if_pos (by omega), if_pos (by rw [B_size]; omega), hbp, HV p _ (by omega), Option.bind_some]
     by_cases hpv : valN p < b
     ·rw [if_pos hpv, if_pos (by omega), if_pos (by omega), g1, HV d _ (by omega), Option.bind_some]
      have hsn2 : sn = true := by rw [hsn]; exact decide_eq_true hpv
      have hwr : wrun s (95 :: r) n far sn = wrun s r n far false := by rw [wrun, if_pos ⟨rfl, hsn2, hr⟩]
      rw [hwr]
      by_cases hdv : valN d < b
      ·rw [if_pos hdv, if_pos (by omega), ih (i + 1) false n far (by omega) (.inr ⟨95, by omega, by rw [show ((i + 1 : Nat) : Int) - 1 = (i : Int) by omega]; exact h1, by rw [decide_eq_false (by omega)]⟩), h3]
      ·rw [if_neg hdv, if_neg (by omega), hz, Option.bind_some, if_pos (by decide), hdq, W0 d q n far false (by simp) hdv]; rfl
     ·have hsn2 : sn = false := by rw [hsn]; exact decide_eq_false hpv
      rw [if_neg hpv, if_neg (by omega), hz, Option.bind_some, if_pos (by decide), W0 95 r n far sn (by rw [hsn2]; simp) (by omega)]; rfl
  ·have hcn : ¬ ((c.toNat : Int) = 95) := by
    intro k
    have k2 : c.toNat = (95 : UInt8).toNat := by rw [show (95 : UInt8).toNat = 95 from rfl]; omega
    exact hc (UInt8.toNat_inj.1 k2)
   rw [if_neg hcn, HV c _ (by omega), Option.bind_some, hw1]
   by_cases hv : valN c < b
   ·rw [if_pos hv, if_neg (by omega), W1 c r n far sn hv, ih (i + 1) true (n * b % 18446744073709551616 + valN c) (far || decide (n / 2 ^ (63 - s) ≠ 0)) (by omega) (.inr ⟨c, by omega, by rw [show ((i + 1 : Nat) : Int) - 1 = (i : Int) by omega]; exact h1, by rw [decide_eq_true hv]⟩), h3]
   ·rw [if_neg hv, if_pos (by decide), W0 c r n far sn (fun k => hc k.1) hv]; rfl
theorem whole_l1 (s b q : Nat) (hs : 2 ^ s = b) (hq : 2 ^ (63 - s) = q) (hb : (b = 2 ∧ q = 4611686018427387904) ∨ (b = 8 ∧ q = 1152921504606846976) ∨ (b = 16 ∧ q = 576460752303423488)) (l : List UInt8) (hl : l.length ≤ 2000) (K : Nat) (hK : 13000 ≤ K) : ∀ (m i : Nat) (sn : Bool) (n n' : Nat) (far' sn' : Bool), i + m = l.length → n < 9223372036854775808 →
  wrun s (l.drop i) n false sn = some (n', far', sn') →
  emendref2_Whole.l1 (m + K + 1) (B l) (b : Int) (n : Int) (i : Int) = some (B (if far' = true then (([] : List UInt8), (5 : Int)) else normL (Lib.decDigits n')).1, (if far' = true then (([] : List UInt8), (5 : Int)) else normL (Lib.decDigits n')).2) := by
 have hb3 : b = 2 ∨ b = 8 ∨ b = 16 := by omega
 have hb16 : b ≤ 16 := by omega
 have hb0 : 2 ≤ b := by omega
 have W0 := wrun_none s b hs
 have W1 := wrun_digit s b hs hb16
 rw [hq] at W1
 clear hs hq
 have HV := value_w b hb3
 have F1 : Unit → IntKind.u64.wrap (b : Int) = (b : Int) := fun _ => by rw [IntKind.wrap_u64]; omega
 have F2 : Unit → IntKind.u64.wrap ((9223372036854775807 : Int) / (b : Int)) = (q : Int) - 1 := fun _ => by
  rcases hb with ⟨rfl, rfl⟩ | ⟨rfl, rfl⟩ | ⟨rfl, rfl⟩ <;> rfl
 have hq0 : 0 < q := by omega
 have hmul : ∀ n v : Nat, n < q → v < b → n * b + v < 9223372036854775808 := by
  intro n v h1 h2
  rcases hb with ⟨rfl, rfl⟩ | ⟨rfl, rfl⟩ | ⟨rfl, rfl⟩ <;> omega
 clear hb
 intro m
 induction m with
 | zero =>
  intro i sn n n' far' sn' hi hn h
  rw [List.drop_eq_nil_of_le (by omega), wrun] at h
  injection h with h
  injection h with e1 h
  injection h with e2 e3
  subst e1 e2
  have hw : wrap64 (n : Int) = (n : Int) := by unfold wrap64; omega
  rw [Nat.zero_add, emendref2_Whole.l1, if_neg (by rw [B_size]; omega), hw, digits_w n (by omega) K (by omega), Option.bind_some, normal_w _ (by have := decDigits_le20 n (by omega); omega) K hK, Option.bind_some, if_neg (by decide)]
 | succ m ih =>
  intro i sn n n' far' sn' hi hn h
  obtain ⟨c, r, hcr⟩ : ∃ c r, l.drop i = c :: r := by
   cases h : l.drop i with
   | nil => have := congrArg List.length h; rw [List.length_drop] at this; simp at this; omega
   | cons c r => exact ⟨c, r, rfl⟩
  obtain ⟨h1, h2, h3⟩ := bt_drop l i c r hcr
  have v95 : valN 95 = 16 := by decide
  have hw1 : wrap64 ((i : Int) + 1) = ((i + 1 : Nat) : Int) := by unfold wrap64; omega
  rw [hcr] at h
  rw [show m + 1 + K + 1 = (m + K + 1) + 1 by omega, emendref2_Whole.l1, if_pos (show (i : Int) < ((B l).size : Int) by rw [B_size]; exact Int.ofNat_lt.2 h2), if_pos (Int.natCast_nonneg i), h1, hw1]
  by_cases hc : c = 95
  ·subst hc
   rw [if_pos (show (((95 : UInt8).toNat : Int) = 95) from rfl)]
   by_cases hg : (95 : UInt8) = 95 ∧ sn = true ∧ r ≠ []
   ·rw [wrun, if_pos hg, ← h3] at h
    exact ih (i + 1) false n n' far' sn' (by omega) hn h
   ·rw [W0 95 r n false sn hg (by omega)] at h
    cases h
  ·have hcn : ¬ ((c.toNat : Int) = 95) := by
    intro k
    have k2 : c.toNat = (95 : UInt8).toNat := by rw [show (95 : UInt8).toNat = 95 from rfl]; omega
    exact hc (UInt8.toNat_inj.1 k2)
   by_cases hv : valN c < b
   ·rw [W1 c r n false sn hv, Bool.false_or, ← h3] at h
    rw [if_neg hcn, F1 (), if_neg (by omega), F2 (), HV c _ (by omega), Option.bind_some, if_pos hv]
    by_cases hf : q ≤ n
    ·have hfar : far' = true := by
      rw [decide_eq_true (show n / q ≠ 0 by
       have : 0 < n / q := Nat.div_pos hf hq0
       omega)] at h
      exact wrun_far s _ _ _ _ _ _ h
     rw [if_pos (by omega), if_pos hfar]; rfl
    ·have hz : n / q = 0 := Nat.div_eq_of_lt (by omega)
     have hnb : n * b + valN c < 9223372036854775808 := hmul n _ (by omega) hv
     have F3 : IntKind.u64.wrap (IntKind.u64.wrap ((n : Int) * (b : Int)) + IntKind.u64.wrap (valN c : Int)) = ((n * b + valN c : Nat) : Int) := by
      rw [IntKind.wrap_u64, IntKind.wrap_u64, IntKind.wrap_u64, ← Int.natCast_mul]
      omega
     rw [hz, decide_eq_false (by simp), Nat.mod_eq_of_lt (by omega)] at h
     rw [if_neg (by omega), F3, if_neg (by omega)]
     exact ih (i + 1) true (n * b + valN c) n' far' sn' (by omega) hnb h
   ·rw [W0 c r n false sn (fun k => hc k.1) hv] at h
    cases h
theorem whole_j0 (s b q : Nat) (hs : 2 ^ s = b) (hq : 2 ^ (63 - s) = q) (hb : (b = 2 ∧ q = 4611686018427387904) ∨ (b = 8 ∧ q = 1152921504606846976) ∨ (b = 16 ∧ q = 576460752303423488)) (l : List UInt8) (hl : l.length ≤ 300) (k : Nat) (hk : 14000 ≤ k) :
  emendref2_Whole.j0 k (B l) (b : Int) false = some (B (wholeE (wrun s l 0 false false)).1, (wholeE (wrun s l 0 false false)).2) := by
 have hb3 : b = 2 ∨ b = 8 ∨ b = 16 := by omega
 obtain ⟨K, hK⟩ : ∃ K, k = (l.length + (l.length + K + 1) + 1) + 1 := ⟨k - (l.length + l.length + 3), by omega⟩
 subst hK
 have h00 := whole_l0 s b hs hb3 l (by omega) (l.length + K + 1) (by omega) l.length 0 false 0 false (by omega) (.inl ⟨rfl, rfl⟩)
 rw [show ((0 : Nat) : Int) = 0 from rfl] at h00
 rw [emendref2_Whole.j0, if_neg (by decide), h00, List.drop_zero]
 cases h : wrun s l 0 false false with
 | none => rfl
 | some p =>
  obtain ⟨n', far', sn'⟩ := p
  simp only
  by_cases h0 : l.length = 0
  ·have : l = [] := List.length_eq_zero_iff.1 h0
   subst this
   rw [wrun] at h
   injection h with h
   injection h with e1 h
   injection h with e2 e3
   subst e1 e2 e3
   rfl
  ·have hne : l ≠ [] := fun k => h0 (by rw [k]; rfl)
   have hsn := wrun_seen s l _ _ _ _ _ _ hne h
   have := whole_l1 s b q hs hq hb l (by omega) K (by omega) l.length 0 false 0 n' far' sn' (by omega) (by omega) (by rw [List.drop_zero]; exact h)
   rw [if_neg h0]
   refine this.trans ?_
   unfold wholeE
   rw [hsn]
   rfl
theorem whole_f (l : List UInt8) (hl : l.length ≤ 300) (base : Int) (k : Nat) (hk : 14001 ≤ k) : emendref2_Whole.f k (B l) base = some (B (wholeL l base).1, (wholeL l base).2) := by
 unfold emendref2_Whole.f wholeL
 by_cases h2 : base = 2
 ·rw [if_pos h2, if_pos h2, h2]
  exact whole_j0 1 2 _ rfl rfl (.inl ⟨rfl, rfl⟩) l hl k (by omega)
 ·rw [if_neg h2, if_neg h2]
  by_cases h8 : base = 8
  ·rw [if_pos h8, if_pos h8, h8]
   exact whole_j0 3 8 _ rfl rfl (.inr (.inl ⟨rfl, rfl⟩)) l hl k (by omega)
  ·rw [if_neg h8, if_neg h8]
   by_cases h16 : base = 16
   ·rw [if_pos h16, h16]
    exact whole_j0 4 16 _ rfl rfl (.inr (.inr ⟨rfl, rfl⟩)) l hl k (by omega)
   ·rw [if_neg h16, bne_iff_ne.2 h16]
    obtain ⟨j, rfl⟩ : ∃ j, k = j + 1 := ⟨k - 1, by omega⟩
    rw [emendref2_Whole.j0, if_pos rfl]; rfl
theorem wholes_step (l : List UInt8) (hl : l.length ≤ 300) (bs : List Int) (i : Nat) (hi : i < bs.length) (hn : bs.length ≤ 10) (k : Nat) (hk : 14001 ≤ k) (hnext : emendlaw2_NumWholes.l0 k (B l) bs ((i + 1 : Nat) : Int) = some true) : emendlaw2_NumWholes.l0 (k + 1) (B l) bs (i : Int) = some true := by
 have hw1 : wrap64 ((i : Int) + 1) = ((i + 1 : Nat) : Int) := by unfold wrap64; omega
 rw [emendlaw2_NumWholes.l0, if_pos (by omega), if_pos (by omega), whole_f l hl _ k hk, hw1]
 unfold num_Whole.f
 rw [if_pos (by rw [B_size]; omega), Option.bind_some, Option.bind_some, B_data, if_pos rfl, if_pos rfl]
 exact hnext
theorem numWholes_f (l : List UInt8) (a : Int) : emendlaw2_NumWholes.f 14100 (B l) a = some true := by
 unfold emendlaw2_NumWholes.f
 have h := few_w l 300
 rw [show ((300 : Nat) : Int) = 300 from rfl] at h
 have hl : (l.take 300).length ≤ 300 := by rw [List.length_take]; omega
 rw [h, Option.bind_some]
 have hend : ∀ k, emendlaw2_NumWholes.l0 (k + 1) (B (l.take 300)) [a, 2, 8, 16] ((4 : Nat) : Int) = some true := by
  intro k
  rw [emendlaw2_NumWholes.l0, if_neg (by simp)]; rfl
 exact wholes_step _ hl _ 0 (by simp) (by simp) 14099 (by omega) (wholes_step _ hl _ 1 (by simp) (by simp) 14098 (by omega) (wholes_step _ hl _ 2 (by simp) (by simp) 14097 (by omega) (wholes_step _ hl _ 3 (by simp) (by simp) 14096 (by omega) (hend 14095))))
theorem numWholes_true (l : List UInt8) (a : Int) (w : World) (he : Env w) (hl : l.length ≤ 9223372036854775807) (ha : -9223372036854775808 ≤ a ∧ a ≤ 9223372036854775807) :
  Calls Tryz.prog 6 #[.string (B l), .int .i64 a] w fun e w' => e = .returned (.bool true) ∧ Below w.heap.size w w' :=
 emendlaw2_NumWholes.calls 14100 (B l) a true w he (numWholes_f l a)
end Go.Proofs.YtjaongknagmfiaaGreatDoor
