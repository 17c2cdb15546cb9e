/-
  NumJoins is true: the plain law over the printed functions.
-/
import Derived.Test.YtjaongknagmfiaaDoorPJx
set_option linter.unusedSimpArgs false
set_option linter.unusedVariables false
namespace Go.Proofs.YtjaongknagmfiaaDoor
open Go.RowKit Go.Proofs.YtjaongknagmfiaaDoorW.PrintWords Go.Proofs.YtjaongknagmfiaaDoor.PJ

theorem few_j (l : List UInt8) (n : Nat) : emendlaw2_few.f (B l) (n : Int) = some (B (l.take n)) := by
  unfold emendlaw2_few.f
  by_cases h : n < l.length
  · rw [if_pos (by rw [B_size]; omega), if_pos (by omega), if_pos (by rw [B_size]; omega), Int.toNat_natCast, B_head]
  · rw [if_neg (by rw [B_size]; omega), List.take_of_length_le (by omega)]
theorem digit_j (c : UInt8) : emendref2_digit.f (c.toNat : Int) = some (isD c) := by
  unfold emendref2_digit.f isD
  by_cases h : (48 : Nat) ≤ c.toNat
  · rw [if_pos (by omega)]
    by_cases h1 : c.toNat ≤ 57
    · have h2 : (c.toNat : Int) ≤ 57 := by omega
      simp [h, h1, h2]
    · have h2 : ¬ (c.toNat : Int) ≤ 57 := by omega
      simp [h, h1, h2]
  · rw [if_neg (by omega)]; simp [h]
theorem rj_loop (d : List UInt8) (n : Bool) (x : Int) (hl : d.length ≤ 2000) : ∀ (m : List UInt8) (i k : Nat), d.drop i = m → i + m.length = d.length → m.length < k →
    emendref2_Join.l0 k (d.length : Int) (i : Int) n (B d) x = if (m.takeWhile isD).length < m.length then some (⟨#[]⟩, 1) else emendref2_Join.l0 (k - m.length) (d.length : Int) (d.length : Int) n (B d) x := by
  intro m
  induction m with
  | nil =>
    intro i k hm hi hk
    have : i = d.length := by simpa using hi
    subst this
    simp
  | cons c m ih =>
    intro i k hm hi hk
    simp only [List.length_cons] at hi hk
    obtain ⟨k, rfl⟩ : ∃ j, k = j + 1 := ⟨k - 1, by omega⟩
    have hlt : i < d.length := by omega
    have hc : d.getD i 0 = c := by
      have := congrArg (fun x : List UInt8 => x[0]?) hm
      simp [List.getElem?_drop] at this
      rw [List.getD_eq_getElem?_getD, this]; rfl
    have hd : d.drop (i + 1) = m := by rw [← List.drop_drop, hm]; rfl
    rw [emendref2_Join.l0, if_pos (by omega), if_pos (by omega), if_pos (by rw [B_size]; omega), B_bt, hc, digit_j, Option.bind_some]
    cases hdc : isD c with
    | false =>
      rw [if_neg (by decide), if_pos (by simp [List.takeWhile_cons, hdc])]
    | true =>
      rw [if_pos rfl, show wrap64 ((i : Int) + 1) = ((i + 1 : Nat) : Int) by unfold wrap64; omega, ih (i + 1) k hd (by omega) (by omega), List.takeWhile_cons, hdc]
      simp only [if_true, List.length_cons]
      rw [show k + 1 - (m.length + 1) = k - m.length by omega]
      by_cases h : (m.takeWhile isD).length < m.length
      · rw [if_pos h, if_pos (by omega)]
      · rw [if_neg h, if_neg (by omega)]
/-- The walk's end, behind the digits' test. -/
theorem rj_j3 (k : Nat) (s d : List UInt8) (n : Bool) (x : Int) (hs : s.length ≤ 3000) (hx : -9223372036854775808 ≤ x ∧ x ≤ 9223372036854775807) :
    emendref2_Join.j3 (k + 1) (B s) n (B d) x = some (if 1000 < (s ++ (if x ≠ 0 then 101 :: Lib.itoa x else [])).length then (⟨#[]⟩, 2) else (B (s ++ (if x ≠ 0 then 101 :: Lib.itoa x else [])), 0)) := by
  rw [emendref2_Join.j3]
  by_cases h : x = 0
  · have e0 : (if x ≠ 0 then 101 :: Lib.itoa x else []) = [] := if_neg (fun g => g h)
    rw [if_pos h, e0, List.append_nil]
    by_cases h1 : 1000 < s.length
    · rw [if_pos (by rw [B_size]; omega), if_pos h1]
    · rw [if_neg (by rw [B_size]; omega), if_neg h1]
  · have hil := Lib.itoa_length_le x hx.1 hx.2
    have e1 : B s ++ (⟨#[101]⟩ : ByteArray) = B (s ++ [101]) := B_app s [101]
    have e0 : (if x ≠ 0 then 101 :: Lib.itoa x else []) = 101 :: Lib.itoa x := if_pos h
    unfold emendref2_Decimal.f
    rw [if_neg h, if_pos (by rw [B_size]; omega), if_pos hx, Option.bind_some, e1, B_app, if_pos (by rw [B_size, B_size, List.length_append]; simp; omega), e0]
    have e2 : s ++ [101] ++ Lib.itoa x = s ++ 101 :: Lib.itoa x := by simp
    rw [e2]
    by_cases h1 : 1000 < (s ++ 101 :: Lib.itoa x).length
    · rw [if_pos (by rw [B_size]; omega), if_pos h1]
    · rw [if_neg (by rw [B_size]; omega), if_neg h1]
theorem pair_if (c : Prop) [Decidable c] (s : List UInt8) : some (if c then ((⟨#[]⟩ : ByteArray), (2 : Int)) else (B s, 0)) = some (B (if c then (([] : List UInt8), (2 : Int)) else (s, 0)).1, (if c then (([] : List UInt8), (2 : Int)) else (s, 0)).2) := by
  by_cases h : c
  · simp only [if_pos h]; rfl
  · simp only [if_neg h]
theorem rj_j2 (k : Nat) (d : List UInt8) (n : Bool) (x : Int) (hd : d.length ≤ 2000) (hx : -9223372036854775808 ≤ x ∧ x ≤ 9223372036854775807) (b : Bool) (hb : b = decide (x < -999999 ∨ 999999 < x)) (hbad : ¬ joinBad (n, d, x)) :
    emendref2_Join.j2 (k + 2) (d.length : Int) b n (B d) x = some (B (joinL (n, d, x)).1, (joinL (n, d, x)).2) := by
  rw [emendref2_Join.j2]
  unfold joinL
  rw [if_neg hbad]
  simp only
  by_cases h : x < -999999 ∨ 999999 < x
  · rw [if_pos (by rw [hb]; exact decide_eq_true h), if_pos h]; rfl
  · rw [if_neg (by rw [hb, decide_eq_false h]; decide), if_neg h]
    by_cases h0 : d.length = 0
    · rw [if_pos (by omega), if_pos h0]; rfl
    · rw [if_neg (by omega), if_neg h0]
      unfold joinS
      simp only
      cases n with
      | true =>
        rw [if_pos rfl, if_pos (by rw [B_size]; omega), show (⟨#[45]⟩ : ByteArray) ++ B d = B (45 :: d) from B_app [45] d, rj_j3 k (45 :: d) d true x (by simp; omega) hx]
        simp only [if_true]
        exact pair_if _ _
      | false =>
        rw [if_neg (by decide), rj_j3 k d d false x (by omega) hx]
        simp only [Bool.false_eq_true, if_false]
        exact pair_if _ _
theorem rj_j1 (k : Nat) (d : List UInt8) (n : Bool) (x : Int) (hd : d.length ≤ 2000) (hx : -9223372036854775808 ≤ x ∧ x ≤ 9223372036854775807) (b : Bool) (hb : b = decide (joinBad (n, d, x))) :
    emendref2_Join.j1 (k + 3) (d.length : Int) b n (B d) x = some (B (joinL (n, d, x)).1, (joinL (n, d, x)).2) := by
  rw [emendref2_Join.j1]
  by_cases h : joinBad (n, d, x)
  · rw [if_pos (by rw [hb]; exact decide_eq_true h)]
    unfold joinL
    rw [if_pos h]; rfl
  · rw [if_neg (by rw [hb, decide_eq_false h]; decide)]
    by_cases h1 : x > 999999
    · rw [if_pos h1]; exact rj_j2 k d n x hd hx true (decide_eq_true (.inr h1)).symm h
    · rw [if_neg h1]
      refine rj_j2 k d n x hd hx _ ?_ h
      congr 1
      exact propext ⟨fun g => .inl g, fun g => g.resolve_right h1⟩
theorem refJoin_f (d : List UInt8) (n : Bool) (x : Int) (hd : d.length ≤ 2000) (hx : -9223372036854775808 ≤ x ∧ x ≤ 9223372036854775807) :
    emendref2_Join.f 3000 n (B d) x = some (B (joinL (n, d, x)).1, (joinL (n, d, x)).2) := by
  unfold emendref2_Join.f
  rw [B_size]
  have h := rj_loop d n x hd d 0 3000 rfl (by omega) (by omega)
  rw [show ((0 : Nat) : Int) = 0 from rfl] at h
  rw [h]
  by_cases hA : (d.takeWhile isD).length < d.length
  · rw [if_pos hA]
    unfold joinL
    rw [if_pos (.inl hA)]; rfl
  · rw [if_neg hA]
    obtain ⟨k, hk⟩ : ∃ k, 3000 - d.length = k + 4 := ⟨3000 - d.length - 4, by omega⟩
    rw [hk, emendref2_Join.l0, if_neg (by omega)]
    by_cases hz : d.length = 0
    · rw [if_pos (by omega)]
      have hj : ∀ b, b = decide (x ≠ 0 ∨ n = true) → b = decide (joinBad (n, d, x)) := by
        rintro b rfl
        congr 1
        refine propext ⟨fun g => .inr (.inr ⟨hz, g⟩), ?_⟩
        rintro (g | ⟨g, _⟩ | ⟨_, g⟩)
        · exact absurd g hA
        · exact absurd (show 0 < d.length from g) (by omega)
        · exact g
      by_cases h0 : x = 0
      · rw [if_pos h0]
        cases n with
        | true => rw [if_pos rfl]; exact rj_j1 k d true x hd hx true (hj true (by simp))
        | false => rw [if_neg (by decide), if_neg (by omega)]; exact rj_j1 k d false x hd hx false (hj false (by simp [h0]))
      · rw [if_neg h0]; exact rj_j1 k d n x hd hx true (hj true (by simp [h0]))
    · rw [if_neg (by omega), if_pos (by omega), if_pos (by rw [B_size]; omega)]
      have hp : 0 < d.length := by omega
      have hj : ∀ b, b = decide (d.head? = some 48 ∨ d.getLast? = some 48) → b = decide (joinBad (n, d, x)) := by
        rintro b rfl
        congr 1
        refine propext ⟨fun g => .inr (.inl ⟨hp, g⟩), ?_⟩
        rintro (g | ⟨_, g⟩ | ⟨g, _⟩)
        · exact absurd g hA
        · exact g
        · exact absurd (show d.length = 0 from g) hz
      have hhead : d.head? = some (d.getD 0 0) := by
        cases d with | nil => simp at hp | cons a d => rfl
      have hlast : d.getLast? = some (d.getD (d.length - 1) 0) := by
        rw [List.getLast?_eq_getElem?, List.getD_eq_getElem?_getD, List.getElem?_eq_getElem (by omega)]; rfl
      have eq48 : ∀ c : UInt8, ((c.toNat : Int) = 48) ↔ c = 48 := fun c => ⟨fun h => UInt8.toNat_inj.1 (by show c.toNat = 48; omega), fun h => by subst h; rfl⟩
      have hb0 := B_bt d 0
      rw [show ((0 : Nat) : Int) = 0 from rfl] at hb0
      rw [hb0]
      by_cases h48 : ((d.getD 0 0).toNat : Int) = 48
      · rw [if_pos h48]; exact rj_j1 k d n x hd hx true (hj true (decide_eq_true (.inl (by rw [hhead, (eq48 _).1 h48]))).symm)
      · rw [if_neg h48, show wrap64 ((d.length : Int) - 1) = ((d.length - 1 : Nat) : Int) by unfold wrap64; omega, if_pos (by omega), if_pos (by rw [B_size]; omega), B_bt]
        refine rj_j1 k d n x hd hx _ (hj _ ?_)
        have h0 : ¬ d.head? = some 48 := fun g => h48 ((eq48 _).2 (by rw [hhead] at g; injection g))
        by_cases hL : ((d.getD (d.length - 1) 0).toNat : Int) = 48
        · rw [decide_eq_true (p := d.head? = some 48 ∨ d.getLast? = some 48) (.inr (by rw [hlast, (eq48 _).1 hL]))]
          simpa using hL
        · rw [decide_eq_false (p := d.head? = some 48 ∨ d.getLast? = some 48) (fun g => g.elim h0 (fun g => hL ((eq48 _).2 (by rw [hlast] at g; injection g))))]
          simpa using hL
theorem numJoins_f (n : Bool) (l : List UInt8) (x : Int) (hx : -9223372036854775808 ≤ x ∧ x ≤ 9223372036854775807) : emendlaw2_NumJoins.f 3000 n (B l) x = some true := by
  unfold emendlaw2_NumJoins.f
  have h := few_j l 1100
  rw [show ((1100 : Nat) : Int) = 1100 from rfl] at h
  have hl : (l.take 1100).length ≤ 1100 := by rw [List.length_take]; omega
  rw [h, Option.bind_some, refJoin_f (l.take 1100) n x (by omega) hx]
  unfold num_Join.f
  rw [if_pos ⟨by rw [B_size]; omega, hx⟩, Option.bind_some, Option.bind_some, B_data, if_pos rfl, if_pos rfl]
  rfl
theorem numJoins_true (n : Bool) (l : List UInt8) (x : Int) (w : World) (he : Env w) (hl : l.length ≤ 9223372036854775807) (hx : -9223372036854775808 ≤ x ∧ x ≤ 9223372036854775807) :
    Calls Tryd.prog 4 #[.bool n, .string (B l), .int .i64 x] w fun e w' => e = .returned (.bool true) ∧ Below w.heap.size w w' :=
  emendlaw2_NumJoins.calls 3000 n (B l) x true w he (numJoins_f n l x hx)
end Go.Proofs.YtjaongknagmfiaaDoor
