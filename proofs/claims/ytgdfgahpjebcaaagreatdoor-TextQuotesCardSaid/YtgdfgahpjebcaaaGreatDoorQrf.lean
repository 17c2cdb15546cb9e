/-
  The reference's Quote and Unquote, plainly.
-/
import Derived.Test.YtgdfgahpjebcaaaGreatDoorSam
set_option linter.unusedSimpArgs false
set_option linter.unusedVariables false
namespace Go.Proofs.YtgdfgahpjebcaaaGreatDoor
open Go.RowKit Go.Proofs.YtgdfgahpjebcaaaGreatDoorW.PrintWords Go.Proofs.YtgdfgahpjebcaaaGreatDoor.PT

/-! ### Rows of bytes as texts (as in Bkp) -/
theorem strq_size (l : List Int) : (strOfNums l).size = l.length := by simp [strOfNums, ByteArray.size]
theorem bytesOf_strq (l : List Int) (h : ∀ x ∈ l, 0 ≤ x ∧ x < 256) : bytesOf (strOfNums l) = l := by
  unfold bytesOf strOfNums
  simp only [List.map_map]
  conv => rhs; rw [← List.map_id l]
  apply List.map_congr_left
  intro x hx
  have := h x hx
  simp only [Function.comp, UInt8.toNat_ofNat', id]
  omega
theorem encI_bytesq (c : Int) (h : charB c = true) : ∀ x ∈ encI c, 0 ≤ x ∧ x < 256 := by
  have hc := (charB_spec c).1 h
  intro x hx
  unfold encI at hx
  split at hx
  · simp at hx; omega
  · split at hx
    · simp at hx; rcases hx with rfl | rfl <;> omega
    · split at hx
      · simp at hx; rcases hx with rfl | rfl | rfl <;> omega
      · simp at hx; rcases hx with rfl | rfl | rfl | rfl <;> omega
theorem byteq_f (c : Int) (h : charB c = true) : emendref1_Byte.f c = some (strOfNums (encI c)) := by
  have hc := (charB_spec c).1 h
  unfold emendref1_Byte.f encI
  have d1 : Int.tdiv c 64 = c / 64 := Int.tdiv_eq_ediv_of_nonneg hc.1
  have d2 : Int.tdiv c 4096 = c / 4096 := Int.tdiv_eq_ediv_of_nonneg hc.1
  have d3 : Int.tdiv c 262144 = c / 262144 := Int.tdiv_eq_ediv_of_nonneg hc.1
  have m0 : Int.tmod c 64 = c % 64 := Int.tmod_eq_emod_of_nonneg hc.1
  have m1 : Int.tmod (c / 64) 64 = c / 64 % 64 := Int.tmod_eq_emod_of_nonneg (by omega)
  have m2 : Int.tmod (c / 4096) 64 = c / 4096 % 64 := Int.tmod_eq_emod_of_nonneg (by omega)
  by_cases h1 : c < 128
  · rw [if_pos h1, if_pos h1, show c % 256 = c by omega]
  · rw [if_neg h1, if_neg h1]
    by_cases h2 : c < 2048
    · rw [if_pos h2, if_pos h2, d1, m0, w64 (n := c / 64) (by omega) (by omega), w64 (by omega) (by omega), w64 (by omega) (by omega), show (192 + c / 64) % 256 = 192 + c / 64 by omega, show (128 + c % 64) % 256 = 128 + c % 64 by omega]
    · rw [if_neg h2, if_neg h2]
      by_cases h3 : c < 65536
      · rw [if_pos h3, if_pos h3, d1, d2, m0, w64 (n := c / 64) (by omega) (by omega), w64 (n := c / 4096) (by omega) (by omega), m1, w64 (by omega) (by omega), w64 (by omega) (by omega), w64 (by omega) (by omega), show (224 + c / 4096) % 256 = 224 + c / 4096 by omega, show (128 + c / 64 % 64) % 256 = 128 + c / 64 % 64 by omega, show (128 + c % 64) % 256 = 128 + c % 64 by omega]
      · rw [if_neg h3, if_neg h3, d1, d2, d3, m0, w64 (n := c / 64) (by omega) (by omega), w64 (n := c / 4096) (by omega) (by omega), w64 (n := c / 262144) (by omega) (by omega), m1, m2, w64 (by omega) (by omega), w64 (by omega) (by omega), w64 (by omega) (by omega), w64 (by omega) (by omega), show (240 + c / 262144) % 256 = 240 + c / 262144 by omega, show (128 + c / 4096 % 64) % 256 = 128 + c / 4096 % 64 by omega, show (128 + c / 64 % 64) % 256 = 128 + c / 64 % 64 by omega, show (128 + c % 64) % 256 = 128 + c % 64 by omega]

/-! ### Quote -/
theorem hexq_f (n : Int) (h0 : 0 ≤ n) (h1 : n < 16) : emendref1_hex.f n = some (hexI n) := by
  unfold emendref1_hex.f hexI
  by_cases h : n < 10
  · rw [if_pos h, if_pos h, w64 (by omega) (by omega), show (48 + n) % 256 = 48 + n by omega]
  · rw [if_neg h, if_neg h, w64 (n := 97 + n) (by omega) (by omega), w64 (by omega) (by omega), show (97 + n - 10) % 256 = 87 + n by omega]
theorem quote_l0 (s : ByteArray) (hs : s.size ≤ 1000000) : ∀ (d k i : Nat) (acc : List Int), s.size - i = d → i ≤ s.size → 3 * d < k → acc.length ≤ 6 * i + 1 → emendref1_Quote.l0 k s acc (i : Int) = some (strOfNums (acc ++ ((bytesOf s).drop i).flatMap qb ++ [34])) := by
  intro d
  induction d with
  | zero =>
    intro k i acc h1 h2 h3 h4
    obtain ⟨k, rfl⟩ : ∃ m, k = m + 1 := ⟨k - 1, by omega⟩
    rw [emendref1_Quote.l0, if_neg (by omega), if_pos (by omega), List.drop_of_length_le (by rw [bytesOf_length]; omega)]
    simp
  | succ d ih =>
    intro k i acc h1 h2 h3 h4
    obtain ⟨k, rfl⟩ : ∃ m, k = m + 3 := ⟨k - 3, by omega⟩
    have hlt : i < s.size := by omega
    have hc := bt_range s i
    rw [emendref1_Quote.l0, if_pos (by omega), if_pos (by omega), drop_step s i hlt, List.flatMap_cons]
    generalize bt s (i : Int) = c at hc
    have hw : wrap64 ((i : Int) + 1) = ((i + 1 : Nat) : Int) := by rw [w64 (by omega) (by omega)]; omega
    have fin : ∀ (m : Nat) (y : List Int), k ≤ m → y = qb c → y.length ≤ 6 → emendref1_Quote.l0 m s (acc ++ y) (wrap64 ((i : Int) + 1)) = some (strOfNums (acc ++ (qb c ++ ((bytesOf s).drop (i + 1)).flatMap qb) ++ [34])) := by
      intro m y hm hy hyl
      rw [hw, ih m (i + 1) (acc ++ y) (by omega) (by omega) (by omega) (by rw [List.length_append]; omega), hy, List.append_assoc acc]
    have j1 : ∀ b, b = decide (c = 34 ∨ c = 92) → emendref1_Quote.j1 (k + 2) s acc (i : Int) c b = some (strOfNums (acc ++ (qb c ++ ((bytesOf s).drop (i + 1)).flatMap qb) ++ [34])) := by
      intro b hb
      rw [emendref1_Quote.j1]
      by_cases h0 : c = 34 ∨ c = 92
      · rw [if_pos (by rw [hb]; exact decide_eq_true h0), Option.bind_some, if_pos (by simp only [List.length_cons, List.length_nil]; omega)]
        have hs0 : shortI c = c := by unfold shortI; rw [if_pos h0]
        exact fin _ _ (by omega) (by unfold qb; rw [hs0, if_pos (by omega)]) (by simp)
      · rw [if_neg (by rw [hb]; exact fun h => h0 (of_decide_eq_true h))]
        have g1 : ¬ c = 34 := fun h => h0 (.inl h)
        have g2 : ¬ c = 92 := fun h => h0 (.inr h)
        by_cases h8 : c = 8
        · rw [if_pos h8, Option.bind_some, if_pos (by simp only [List.length_cons, List.length_nil]; omega)]
          exact fin _ _ (by omega) (by subst h8; rfl) (by simp)
        rw [if_neg h8]
        by_cases h9 : c = 9
        · rw [if_pos h9, Option.bind_some, if_pos (by simp only [List.length_cons, List.length_nil]; omega)]
          exact fin _ _ (by omega) (by subst h9; rfl) (by simp)
        rw [if_neg h9]
        by_cases h10 : c = 10
        · rw [if_pos h10, Option.bind_some, if_pos (by simp only [List.length_cons, List.length_nil]; omega)]
          exact fin _ _ (by omega) (by subst h10; rfl) (by simp)
        rw [if_neg h10]
        by_cases h12 : c = 12
        · rw [if_pos h12, Option.bind_some, if_pos (by simp only [List.length_cons, List.length_nil]; omega)]
          exact fin _ _ (by omega) (by subst h12; rfl) (by simp)
        rw [if_neg h12]
        by_cases h13 : c = 13
        · rw [if_pos h13, Option.bind_some, if_pos (by simp only [List.length_cons, List.length_nil]; omega)]
          exact fin _ _ (by omega) (by subst h13; rfl) (by simp)
        rw [if_neg h13]
        have hsh : shortI c = 0 := by unfold shortI; rw [if_neg (by omega), if_neg h8, if_neg h9, if_neg h10, if_neg h12, if_neg h13]
        have j2 : ∀ b, b = decide (c < 32 ∨ c = 127) → emendref1_Quote.j2 (k + 1) s acc (i : Int) c b = some (strOfNums (acc ++ (qb c ++ ((bytesOf s).drop (i + 1)).flatMap qb) ++ [34])) := by
          intro b hb
          rw [emendref1_Quote.j2]
          have t0 : Int.tdiv c 16 = c / 16 := Int.tdiv_eq_ediv_of_nonneg hc.1
          have t1 : Int.tmod c 16 = c % 16 := Int.tmod_eq_emod_of_nonneg hc.1
          by_cases hk : c < 32 ∨ c = 127
          · rw [if_pos (by rw [hb]; exact decide_eq_true hk), w64 (n := c) (by omega) (by omega), t0, t1, w64 (by omega) (by omega), hexq_f _ (by omega) (by omega), Option.bind_some, hexq_f _ (by omega) (by omega), Option.bind_some, Option.bind_some, if_pos (by simp only [List.length_cons, List.length_nil]; omega)]
            exact fin _ _ (by omega) (by unfold qb; rw [hsh, if_neg (by omega), if_pos hk]) (by simp)
          · rw [if_neg (by rw [hb]; exact fun h => hk (of_decide_eq_true h)), if_pos (by omega)]
            exact fin _ _ (by omega) (by unfold qb; rw [hsh, if_neg (by omega), if_neg hk]) (by simp)
        by_cases h32 : c < 32
        · rw [if_pos h32]; exact j2 _ (by simp [h32])
        · rw [if_neg h32]; exact j2 _ (by simp [h32]; rfl)
    by_cases h34 : c = 34
    · rw [if_pos h34]; exact j1 _ (by simp [h34])
    · rw [if_neg h34]; exact j1 _ (by simp [h34]; rfl)
theorem quoteR_f (s : ByteArray) (hs : s.size ≤ 1000000) : emendref1_Quote.f (3 * s.size + 1) s = some (strOfNums (quoteI (bytesOf s))) := by
  unfold emendref1_Quote.f
  have := quote_l0 s hs s.size (3 * s.size + 1) 0 [34] (by omega) (by omega) (by omega) (by simp)
  rw [List.drop_zero] at this
  rw [show ((0 : Nat) : Int) = 0 from rfl] at this
  rw [this]
  unfold quoteI
  simp

/-! ### Escapes -/
theorem hexR_f (k : Nat) (c : Int) (h0 : 0 ≤ c) (h1 : c < 256) : emendref1_Hex.f (k + 2) c = some (valI c) := by
  simp only [emendref1_Hex.f, emendref1_Hex.j0, emendref1_Hex.j1, valI, decide_eq_true_eq, Bool.false_eq_true, if_false]
  repeat' split
  all_goals (first | rfl | omega | (congr 1; omega) | (exfalso; omega))
theorem num_step (k : Nat) (s : ByteArray) (i x j : Int) (hi : 0 ≤ i) (hi1 : i ≤ 2000000) (h0 : 0 ≤ j) (h1 : j < 4) (h2 : i + j < s.size) (hx0 : 0 ≤ x) (hx1 : x < 1048576) :
    emendref1_Number.l0 (k + 3) s i 4 x j = if valI (bt s (i + j)) < 0 then some (-1) else emendref1_Number.l0 (k + 2) s i 4 (x * 16 + valI (bt s (i + j))) (j + 1) := by
  have hv := valI_range (bt s (i + j))
  have hb := bt_range s (i + j)
  rw [emendref1_Number.l0, if_pos h1, w64 (n := i + j) (by omega) (by omega), if_neg (by omega), if_pos (by omega), if_pos h2, hexR_f k _ (by omega) (by omega), Option.bind_some]
  split
  · rfl
  · rw [Option.bind_some, w64 (n := x * 16) (by omega) (by omega), w64 (by omega) (by omega), w64 (by omega) (by omega)]
theorem num_out (k : Nat) (s : ByteArray) (i x j : Int) (hi : 0 ≤ i) (hi1 : i ≤ 2000000) (h0 : 0 ≤ j) (h1 : j < 4) (h2 : (s.size : Int) ≤ i + j) : emendref1_Number.l0 (k + 1) s i 4 x j = some (-1) := by
  rw [emendref1_Number.l0, if_pos h1, w64 (n := i + j) (by omega) (by omega), if_pos (by omega)]
theorem number_f (k : Nat) (s : ByteArray) (i : Int) (hi : 0 ≤ i) (hi1 : i ≤ 2000000) : emendref1_Number.f (k + 7) s i 4 = some (hex4 s i) := by
  unfold emendref1_Number.f hex4
  have r0 := valI_range (bt s (i + 0))
  have r1 := valI_range (bt s (i + 1))
  have r2 := valI_range (bt s (i + 2))
  have r3 := valI_range (bt s (i + 3))
  by_cases g0 : (s.size : Int) ≤ i + 0
  · rw [num_out (k + 6) s i 0 0 hi hi1 (by omega) (by omega) g0, if_pos (by omega)]
  rw [num_step (k + 4) s i 0 0 hi hi1 (by omega) (by omega) (by omega) (by omega) (by omega), show (0 : Int) + 1 = 1 by rfl]
  by_cases v0 : valI (bt s (i + 0)) < 0
  · rw [if_pos v0]
    split
    · rfl
    · simp only [hexAcc]; rw [show i + 0 = i by omega] at v0; rw [if_pos v0]
  rw [if_neg v0]
  by_cases g1 : (s.size : Int) ≤ i + 1
  · rw [num_out (k + 5) s i _ 1 hi hi1 (by omega) (by omega) g1, if_pos (by omega)]
  rw [num_step (k + 3) s i _ 1 hi hi1 (by omega) (by omega) (by omega) (by omega) (by omega), show (1 : Int) + 1 = 2 by rfl]
  by_cases v1 : valI (bt s (i + 1)) < 0
  · rw [if_pos v1]
    split
    · rfl
    · simp only [hexAcc]; rw [show i + 0 = i by omega] at v0; rw [if_neg v0, if_pos v1]
  rw [if_neg v1]
  by_cases g2 : (s.size : Int) ≤ i + 2
  · rw [num_out (k + 4) s i _ 2 hi hi1 (by omega) (by omega) g2, if_pos (by omega)]
  rw [num_step (k + 2) s i _ 2 hi hi1 (by omega) (by omega) (by omega) (by omega) (by omega), show (2 : Int) + 1 = 3 by rfl]
  by_cases v2 : valI (bt s (i + 2)) < 0
  · rw [if_pos v2]
    split
    · rfl
    · simp only [hexAcc]; rw [show i + 0 = i by omega] at v0; rw [if_neg v0, if_neg v1, if_pos v2]
  rw [if_neg v2]
  by_cases g3 : (s.size : Int) ≤ i + 3
  · rw [num_out (k + 3) s i _ 3 hi hi1 (by omega) (by omega) g3, if_pos (by omega)]
  rw [num_step (k + 1) s i _ 3 hi hi1 (by omega) (by omega) (by omega) (by omega) (by omega), show (3 : Int) + 1 = 4 by rfl, if_neg (show ¬ (s.size : Int) - i < 4 by omega)]
  simp only [hexAcc]
  rw [show i + 0 = i by omega] at v0 ⊢
  rw [if_neg v0, if_neg v1, if_neg v2]
  by_cases v3 : valI (bt s (i + 3)) < 0
  · rw [if_pos v3, if_pos v3]
  · rw [if_neg v3, if_neg v3, emendref1_Number.l0, if_neg (by omega)]
theorem simple_f (k : Nat) (c : Int) (h0 : 0 ≤ c) (h1 : c < 256) : emendref1_Simple.f (k + 1) c = some (if c = 34 ∨ c = 92 ∨ c = 47 then c else if c = 98 then 8 else if c = 116 then 9 else if c = 110 then 10 else if c = 102 then 12 else if c = 114 then 13 else -1) := by
  simp only [emendref1_Simple.f, emendref1_Simple.j0, beq_iff_eq]
  rw [w64 (n := c) (by omega) (by omega)]
  repeat' split
  all_goals (first | rfl | (exfalso; omega))
/-- The reference's escape, by text.Escaped's. -/
theorem escape_f (k : Nat) (s : ByteArray) (i : Nat) (hs : s.size ≤ 1000000) (hi : i < s.size) : emendref1_escape.f (k + 9) s (i : Int) = some (if (escI (s.extract (i + 1) s.size)).2 = 0 then (0, 0) else ((escI (s.extract (i + 1) s.size)).1, (escI (s.extract (i + 1) s.size)).2 + 1)) := by
  have hz : (s.extract (i + 1) s.size).size = s.size - (i + 1) := by simp
  have hb0 := bt_extract s (i + 1) 0 (by omega) (by omega)
  have hb5 := bt_extract s (i + 1) 5 (by omega) (by omega)
  have hb6 := bt_extract s (i + 1) 6 (by omega) (by omega)
  have hx : ∀ j : Nat, i + 1 + j ≤ s.size → hex4 (s.extract (i + 1) s.size) j = hex4 s ((i + 1 + j : Nat) : Int) := by
    intro j hj
    unfold hex4
    rw [hz, bt_extract s (i + 1) j (by omega) (by omega), bt_extract s (i + 1) (j + 1) (by omega) (by omega), bt_extract s (i + 1) (j + 2) (by omega) (by omega), bt_extract s (i + 1) (j + 3) (by omega) (by omega)]
    rw [show (((s.size - (i + 1) : Nat) : Int) - (j : Int)) = (s.size : Int) - ((i + 1 + j : Nat) : Int) by omega, show ((i + 1 : Nat) : Int) + (j : Int) = ((i + 1 + j : Nat) : Int) by omega, show ((i + 1 : Nat) : Int) + ((j : Int) + 1) = ((i + 1 + j : Nat) : Int) + 1 by omega, show ((i + 1 : Nat) : Int) + ((j : Int) + 2) = ((i + 1 + j : Nat) : Int) + 2 by omega, show ((i + 1 : Nat) : Int) + ((j : Int) + 3) = ((i + 1 + j : Nat) : Int) + 3 by omega]
  unfold emendref1_escape.f
  rw [w64 (n := (i : Int) + 1) (by omega) (by omega)]
  unfold escI
  by_cases h1 : (i : Int) + 1 ≥ s.size
  · rw [if_pos h1, if_pos (show (s.extract (i + 1) s.size).size = 0 by omega)]; rfl
  rw [if_neg h1, if_pos (by omega), if_pos (by omega), if_neg (show ¬ (s.extract (i + 1) s.size).size = 0 by omega), hb0]
  have hbr := bt_range s ((i : Int) + 1)
  rw [show ((i + 1 : Nat) : Int) + 0 = (i : Int) + 1 by omega]
  have hpair : bt s ((i : Int) + 1) = 117 → pairI (s.extract (i + 1) s.size) = pairI (s.extract (i + 1) s.size) := fun _ => rfl
  rw [simple_f (k + 8) _ (by omega) (by omega), Option.bind_some]
  generalize hc : bt s ((i : Int) + 1) = c at hbr
  by_cases c0 : c = 34 ∨ c = 92 ∨ c = 47
  · rw [if_pos c0, if_pos (by omega), if_pos c0]; rfl
  rw [if_neg c0, if_neg c0]
  by_cases c1 : c = 98
  · rw [if_pos c1, if_pos (by omega), if_pos c1]; rfl
  rw [if_neg c1, if_neg c1]
  by_cases c2 : c = 116
  · rw [if_pos c2, if_pos (by omega), if_pos c2]; rfl
  rw [if_neg c2, if_neg c2]
  by_cases c3 : c = 110
  · rw [if_pos c3, if_pos (by omega), if_pos c3]; rfl
  rw [if_neg c3, if_neg c3]
  by_cases c4 : c = 102
  · rw [if_pos c4, if_pos (by omega), if_pos c4]; rfl
  rw [if_neg c4, if_neg c4]
  by_cases c5 : c = 114
  · rw [if_pos c5, if_pos (by omega), if_pos c5]; rfl
  rw [if_neg c5, if_neg c5, if_neg (by omega)]
  by_cases c6 : c = 117
  · rw [if_pos c6, if_pos c6, w64 (n := (i : Int) + 2) (by omega) (by omega), number_f (k + 2) s _ (by omega) (by omega), Option.bind_some]
    have hx1 := hx 1 (by omega)
    rw [show ((1 : Nat) : Int) = 1 from rfl, show ((i + 1 + 1 : Nat) : Int) = (i : Int) + 2 by omega] at hx1
    unfold pairI
    rw [hx1]
    have r1 := hex4_range s ((i : Int) + 2)
    generalize hex4 s ((i : Int) + 2) = a at r1
    by_cases a0 : a < 0
    · rw [if_pos a0, if_pos a0]; rfl
    rw [if_neg a0, if_neg a0]
    by_cases a1 : a < 55296
    · rw [if_pos a1, emendref1_escape.j0, if_pos rfl, if_pos (Or.inl a1)]; rfl
    rw [if_neg a1, emendref1_escape.j0]
    by_cases a2 : 57343 < a
    · rw [if_pos (by simpa using a2), if_pos (Or.inr a2)]; rfl
    rw [if_neg (by simpa using a2), if_neg (show ¬ (a < 55296 ∨ 57343 < a) by omega)]
    by_cases a3 : a > 56319
    · rw [if_pos a3, emendref1_escape.j1, if_pos rfl, if_pos (Or.inl (by omega))]; rfl
    rw [if_neg a3, w64 (n := (i : Int) + 7) (by omega) (by omega)]
    by_cases a4 : (i : Int) + 7 ≥ s.size
    · rw [if_pos a4, emendref1_escape.j1, if_pos rfl, if_pos (Or.inr (by omega))]; rfl
    rw [if_neg a4, w64 (n := (i : Int) + 6) (by omega) (by omega), if_pos (by omega), if_pos (by omega), hb5, hb6, show ((i + 1 : Nat) : Int) + 5 = (i : Int) + 6 by omega, show ((i + 1 : Nat) : Int) + 6 = (i : Int) + 7 by omega]
    by_cases a5 : bt s ((i : Int) + 6) = 92
    · rw [if_pos a5, if_pos (by omega), if_pos (by omega), emendref1_escape.j1]
      by_cases a6 : bt s ((i : Int) + 7) = 117
      · rw [if_neg (by simp [a6]), if_neg (show ¬ (56320 ≤ a ∨ ¬ (7 ≤ (s.extract (i + 1) s.size).size ∧ bt s ((i : Int) + 6) = 92 ∧ bt s ((i : Int) + 7) = 117)) from fun h => by rcases h with h | h; omega; exact h ⟨by omega, a5, a6⟩)]
        have hx7 := hx 7 (by omega)
        rw [show ((7 : Nat) : Int) = 7 from rfl, show ((i + 1 + 7 : Nat) : Int) = (i : Int) + 8 by omega] at hx7
        rw [hx7, w64 (n := (i : Int) + 8) (by omega) (by omega), number_f k s _ (by omega) (by omega), Option.bind_some]
        have r7 := hex4_range s ((i : Int) + 8)
        generalize hex4 s ((i : Int) + 8) = b at r7
        by_cases b0 : b < 56320
        · rw [if_pos b0, if_pos (Or.inl b0)]; rfl
        rw [if_neg b0]
        by_cases b1 : b > 57343
        · rw [if_pos b1, if_pos (Or.inr b1)]; rfl
        rw [if_neg b1, if_neg (show ¬ (b < 56320 ∨ 57343 < b) by omega)]
        rw [w64 (n := a - 55296) (by omega) (by omega), w64 (n := (a - 55296) * 1024) (by omega) (by omega), w64 (n := 65536 + (a - 55296) * 1024) (by omega) (by omega), w64 (n := 65536 + (a - 55296) * 1024 + b) (by omega) (by omega), w64 (by omega) (by omega)]
        rfl
      · rw [if_pos (by simp [a6]), if_pos (Or.inr (fun h => a6 h.2.2))]; rfl
    · rw [if_neg a5, emendref1_escape.j1, if_pos rfl, if_pos (Or.inr (fun h => a5 h.2.1))]; rfl
  · rw [if_neg c6, if_neg c6]; rfl

/-! ### Within and Unquote -/
def qout (x : List Int × Int × Int × Int) : ByteArray × Int × Int × Int := (if x.2.2.2 = 0 then strOfNums x.1 else ⟨#[]⟩, x.2.1, x.2.2.1, x.2.2.2)
def uout (x : List Int × Int × Int) : ByteArray × Int × Int := (if x.2.2 = 0 then strOfNums x.1 else ⟨#[]⟩, x.2.1, x.2.2)
theorem within_l0 (s : ByteArray) (hs : s.size ≤ 1000000) : ∀ (d k m i : Nat) (acc : List Int), s.size - i ≤ d → i ≤ s.size → d + 10 ≤ k → d ≤ m → acc.length ≤ 4 * i → emendref1_Within.l0 k s acc (i : Int) = some (qout (qrun s m i acc)) := by
  intro d
  induction d with
  | zero =>
    intro k m i acc h1 h2 h3 hm h4
    obtain ⟨k, rfl⟩ : ∃ m, k = m + 1 := ⟨k - 1, by omega⟩
    have hq : qrun s m i acc = ([], 0, (s.size : Int), 14) := by cases m with | zero => rfl | succ m => rw [qrun, if_neg (by omega)]
    rw [emendref1_Within.l0, if_neg (by omega), hq]
    rfl
  | succ d ih =>
    intro k m i acc h1 h2 h3 hm h4
    obtain ⟨k, rfl⟩ : ∃ m, k = m + 10 := ⟨k - 10, by omega⟩
    obtain ⟨m, rfl⟩ : ∃ q, m = q + 1 := ⟨m - 1, by omega⟩
    rw [emendref1_Within.l0, qrun]
    by_cases hlt : i < s.size
    · rw [if_pos (show (i : Int) < s.size by omega), if_pos (show (0 : Int) ≤ (i : Int) by omega), if_pos hlt]
      by_cases c1 : bt s (i : Int) = 34
      · rw [if_pos c1, if_pos c1, w64 (by omega) (by omega)]; rfl
      rw [if_neg c1, if_neg c1]
      by_cases c2 : bt s (i : Int) = 92
      · have he := escI_range (s.extract (i + 1) s.size)
        have hz : (s.extract (i + 1) s.size).size = s.size - (i + 1) := by simp
        have hn32 : ¬ bt s (i : Int) < 32 := by omega
        rw [if_pos c2, if_neg hn32, if_pos c2, escape_f k s i hs hlt, Option.bind_some]
        generalize escI (s.extract (i + 1) s.size) = x at he
        obtain ⟨c, n⟩ := x
        simp only at he ⊢
        by_cases hn : n = 0
        · subst hn; rfl
        · rcases he with he | he
          · exact absurd he hn
          have hel := encI_length c
          rw [if_neg hn, if_neg hn]
          simp only
          rw [if_neg (show ¬ n + 1 = 0 by omega), byteq_f c he.2.2, Option.bind_some, if_pos (by rw [strq_size]; omega), bytesOf_strq _ (encI_bytesq c he.2.2), w64 (by omega) (by omega)]
          have := ih (k + 9) m (i + 1 + n.toNat) (acc ++ encI c) (by omega) (by omega) (by omega) (by omega) (by rw [List.length_append]; omega)
          rw [show ((i + 1 + n.toNat : Nat) : Int) = (i : Int) + (n + 1) by omega] at this
          exact this
      · rw [if_neg c2]
        by_cases c3 : bt s (i : Int) < 32
        · rw [if_pos c3, if_pos c3]; rfl
        · rw [if_neg c3, if_neg c3, if_neg c2, if_pos (by omega), w64 (by omega) (by omega)]
          have := ih (k + 9) m (i + 1) (acc ++ [bt s (i : Int)]) (by omega) (by omega) (by omega) (by omega) (by rw [List.length_append]; simp only [List.length_cons, List.length_nil]; omega)
          rw [show ((i + 1 : Nat) : Int) = (i : Int) + 1 by omega] at this
          exact this
    · rw [if_neg (show ¬ (i : Int) < s.size by omega), if_neg hlt]; rfl
theorem unquoteR_f (s : ByteArray) (l : List Int) (er : Option Nat) (hs : s.size ≤ 1000000) (h : Scan s 0 l er) : emendref1_Unquote.f (s.size + 20) s = some (uout (unqI s er)) := by
  unfold emendref1_Unquote.f
  have hR : emendref1_Runes.f (s.size + 20) s = some (runesS l er) := by
    unfold emendref1_Runes.f
    rw [show (0 : Int) = ((0 : Nat) : Int) from rfl, runes_l0 (by omega) h _ [] (by omega) (by simp)]
    cases er <;> simp [runesS]
  rw [hR, Option.bind_some]
  cases er with
  | some a => rfl
  | none =>
    simp only [runesS, if_true]
    unfold unqI
    by_cases h0 : s.size = 0
    · rw [if_pos (show (s.size : Int) = 0 by omega), if_pos h0]; rfl
    rw [if_neg (show ¬ (s.size : Int) = 0 by omega), if_pos (show (0 : Int) < (s.size : Int) by omega), if_neg h0]
    by_cases h1 : bt s 0 = 34
    · rw [if_pos h1, if_neg (show ¬ bt s 0 ≠ 34 from fun h => h h1)]
      have hw : emendref1_Within.f (s.size + 20) s 0 = some (qout (qrun s s.size 1 [])) := by
        unfold emendref1_Within.f
        rw [if_pos (by decide), w64 (by decide) (by decide)]
        exact within_l0 s hs s.size (s.size + 20) s.size 1 [] (by omega) (by omega) (by omega) (by omega) (by simp)
      rw [hw, Option.bind_some]
      generalize qrun s s.size 1 [] = q
      obtain ⟨b, e, a, y⟩ := q
      simp only [qout]
      by_cases hy : y = 0
      · rw [if_pos hy, if_neg (show ¬ y ≠ 0 from fun h => h hy)]
        by_cases he : e < (s.size : Int)
        · rw [if_pos he, if_pos he]; rfl
        · rw [if_neg he, if_neg he, if_pos hy]; rfl
      · rw [if_neg hy, if_pos (show y ≠ 0 from hy)]
        unfold uout
        simp only
        rw [if_neg hy]
    · rw [if_neg h1, if_pos (show bt s 0 ≠ 34 from h1)]; rfl
end Go.Proofs.YtgdfgahpjebcaaaGreatDoor
