/-
  What is written is read back, plainly: characters, quoted texts, escaped texts.
-/
import Derived.Test.YtgdfgahpjebcaaaDoorMd
set_option linter.unusedSimpArgs false
set_option linter.unusedVariables false
namespace Go.Proofs.YtgdfgahpjebcaaaDoor
open Go.RowKit Go.Proofs.YtgdfgahpjebcaaaDoorW.PrintWords Go.Proofs.YtgdfgahpjebcaaaDoor.PT

/-! ### Rows of bytes as texts -/
theorem str_size (l : List Int) : (strOfNums l).size = l.length := by simp [strOfNums, ByteArray.size]
theorem bytesOf_str (l : List Int) (h : ∀ x ∈ l, 0 ≤ x ∧ x < 256) : bytesOf (strOfNums l) = l := by
  unfold bytesOf strOfNums
  simp only [List.map_map]
  conv => rhs; rw [← List.map_id l]
  apply List.map_congr_left
  intro x hx
  have := h x hx
  simp only [Function.comp, UInt8.toNat_ofNat', id]
  omega
theorem str_bytesOf (s : ByteArray) : strOfNums (bytesOf s) = s := by
  apply ByteArray.ext
  unfold strOfNums bytesOf
  apply Array.toList_inj.1
  simp only [List.map_map]
  conv => rhs; rw [← List.map_id s.data.toList]
  apply List.map_congr_left
  intro x hx
  simp
theorem encI_bytes (c : Int) (h : charB c = true) : ∀ x ∈ encI c, 0 ≤ x ∧ x < 256 := by
  have hc := (charB_spec c).1 h
  intro x hx
  unfold encI at hx
  split at hx
  · simp at hx; omega
  · split at hx
    · simp at hx; rcases hx with rfl | rfl <;> omega
    · split at hx
      · simp at hx; rcases hx with rfl | rfl | rfl <;> omega
      · simp at hx; rcases hx with rfl | rfl | rfl | rfl <;> omega
theorem encs_bytes (l : List Int) (h : l.all charB = true) : ∀ x ∈ encs l, 0 ≤ x ∧ x < 256 := by
  intro x hx
  unfold encs at hx
  obtain ⟨c, hc, hx⟩ := List.mem_flatMap.1 hx
  exact encI_bytes c (List.all_eq_true.1 h c hc) x hx
theorem scan_str (l : List Int) (h : l.all charB = true) : Scan (strOfNums (encs l)) 0 l none := by
  have hb := bytesOf_str (encs l) (encs_bytes l h)
  have hd := Scan.done (s := strOfNums (encs l))
  have := Scan.glue (s := strOfNums (encs l)) (l2 := []) (e := none) l 0 h ⟨[], by rw [List.drop_zero, hb, List.append_nil]⟩ (by rw [Nat.zero_add, ← str_size (encs l)]; exact hd)
  rw [List.append_nil] at this; exact this
/-- A scanned text is its characters' bytes. -/
theorem scan_bytes {s : ByteArray} {l : List Int} (h : Scan s 0 l none) : l.all charB = true ∧ bytesOf s = encs l := by
  obtain ⟨h1, h2, _⟩ := h.says
  have := h2 rfl
  rw [List.drop_zero] at this
  exact ⟨h1, this⟩
theorem charB_low (x : Int) (h : 0 ≤ x ∧ x < 128) : charB x = true := (charB_spec x).2 (by omega)
theorem encs_low (l : List Int) (h : ∀ x ∈ l, x < 128) : encs l = l := by
  induction l with
  | nil => rfl
  | cons c l ih =>
    rw [encs_cons, ih (fun x hx => h x (List.mem_cons_of_mem _ hx))]
    have : encI c = [c] := by unfold encI; rw [if_pos (h c List.mem_cons_self)]
    rw [this]; rfl
theorem encI_high (c : Int) (h : charB c = true) (hc : 128 ≤ c) : ∀ x ∈ encI c, 128 ≤ x := by
  have hb := (charB_spec c).1 h
  intro x hx
  unfold encI at hx
  split at hx
  · omega
  · split at hx
    · simp at hx; rcases hx with rfl | rfl <;> omega
    · split at hx
      · simp at hx; rcases hx with rfl | rfl | rfl <;> omega
      · simp at hx; rcases hx with rfl | rfl | rfl | rfl <;> omega
theorem flat_one (f : Int → List Int) (l : List Int) (h : ∀ x ∈ l, f x = [x]) : l.flatMap f = l := by
  induction l with
  | nil => rfl
  | cons c l ih => rw [List.flatMap_cons, h c List.mem_cons_self, ih (fun x hx => h x (List.mem_cons_of_mem _ hx))]; rfl

/-! ### Quoted texts -/
theorem shortI_zero (c : Int) : shortI c = 0 ↔ ¬ (c = 34 ∨ c = 92 ∨ c = 8 ∨ c = 9 ∨ c = 10 ∨ c = 12 ∨ c = 13) := by
  unfold shortI
  repeat' split
  all_goals omega
theorem qb_high (x : Int) (h : 128 ≤ x) : qb x = [x] := by
  unfold qb
  rw [if_neg (by rw [Ne, Classical.not_not, shortI_zero]; omega), if_neg (by omega)]
theorem hexI_low (n : Int) (h0 : 0 ≤ n) (h1 : n < 16) : 48 ≤ hexI n ∧ hexI n < 103 ∧ valI (hexI n) = n := by
  have h : n = 0 ∨ n = 1 ∨ n = 2 ∨ n = 3 ∨ n = 4 ∨ n = 5 ∨ n = 6 ∨ n = 7 ∨ n = 8 ∨ n = 9 ∨ n = 10 ∨ n = 11 ∨ n = 12 ∨ n = 13 ∨ n = 14 ∨ n = 15 := by omega
  rcases h with h | h | h | h | h | h | h | h | h | h | h | h | h | h | h | h <;> rw [h] <;> decide
theorem qb_low (c : Int) (h0 : 0 ≤ c) (h1 : c < 128) : ∀ x ∈ qb c, 0 ≤ x ∧ x < 128 := by
  have q1 := hexI_low (c / 16) (by omega) (by omega)
  have q2 := hexI_low (c % 16) (by omega) (by omega)
  have hs : 0 ≤ shortI c ∧ shortI c < 128 := by
    unfold shortI; repeat' split
    all_goals omega
  intro x hx
  unfold qb at hx
  split at hx
  · simp at hx; rcases hx with rfl | rfl <;> omega
  · split at hx
    · simp at hx; rcases hx with rfl | rfl | rfl | rfl | rfl <;> omega
    · simp at hx; omega
/-- How a character is quoted. -/
def qr (c : Int) : List Int := if c < 128 then qb c else [c]
theorem qr_char (c : Int) (h : charB c = true) : (qr c).all charB = true := by
  have hc := (charB_spec c).1 h
  unfold qr
  split
  · rw [List.all_eq_true]; exact fun x hx => charB_low x (qb_low c hc.1 (by assumption) x hx)
  · simp [h]
theorem qr_enc (c : Int) (h : charB c = true) : (encI c).flatMap qb = encs (qr c) := by
  have hc := (charB_spec c).1 h
  unfold qr
  by_cases h1 : c < 128
  · rw [if_pos h1, encs_low _ (fun x hx => (qb_low c hc.1 h1 x hx).2)]
    have : encI c = [c] := by unfold encI; rw [if_pos h1]
    rw [this]; simp
  · rw [if_neg h1, flat_one qb (encI c) (fun x hx => qb_high x (encI_high c h (by omega) x hx))]
    simp [encs]
theorem flat_enc (f g : Int → List Int) (l : List Int) (h : ∀ c ∈ l, (encI c).flatMap f = encs (g c)) : (encs l).flatMap f = encs (l.flatMap g) := by
  induction l with
  | nil => rfl
  | cons c l ih => rw [encs_cons, List.flatMap_append, h c List.mem_cons_self, ih (fun x hx => h x (List.mem_cons_of_mem _ hx)), List.flatMap_cons, encs_app]
theorem quote_enc (l : List Int) (h : l.all charB = true) : quoteI (encs l) = encs (34 :: (l.flatMap qr ++ [34])) ∧ (34 :: (l.flatMap qr ++ [34])).all charB = true := by
  constructor
  · unfold quoteI
    rw [encs_cons, encs_app, flat_enc qb qr l (fun c hc => qr_enc c (List.all_eq_true.1 h c hc))]
    rfl
  · simp only [List.all_cons, List.all_append, List.all_nil, Bool.and_true, Bool.and_eq_true]
    refine ⟨by decide, ?_, by decide⟩
    rw [List.all_flatMap, List.all_eq_true]
    exact fun c hc => qr_char c (List.all_eq_true.1 h c hc)
theorem bt_of_drop (q : ByteArray) (i : Nat) (l : List Int) (h : (bytesOf q).drop i = l) (j : Nat) : bt q ((i : Int) + (j : Int)) = l.getD j 0 := by rw [bt_drop, h]
theorem drop_size (q : ByteArray) (i : Nat) (l : List Int) (h : (bytesOf q).drop i = l) : q.size - i = l.length := by
  have := congrArg List.length h
  rw [List.length_drop, bytesOf_length] at this; exact this
theorem drop_more (q : ByteArray) (i n : Nat) (a l : List Int) (h : (bytesOf q).drop i = a ++ l) (hn : n = a.length) : (bytesOf q).drop (i + n) = l := by
  subst hn
  rw [← List.drop_drop, h, List.drop_left]

/-- What the escape of a quoted byte says. -/
theorem esc_short (q : ByteArray) (i : Nat) (c : Int) (tl : List Int) (hc : shortI c ≠ 0) (h : (bytesOf q).drop i = shortI c :: tl) : escI (q.extract i q.size) = (c, 1) := by
  have hz := drop_size q i _ h
  rw [List.length_cons] at hz
  have b0 := bt_of_drop q i _ h 0
  have e0 := bt_extract q i 0 (by omega) (by omega)
  rw [Int.natCast_zero, Int.add_zero] at b0
  rw [Int.add_zero] at e0
  simp at b0
  have hs : (q.extract i q.size).size = q.size - i := by simp
  have hk : c = 34 ∨ c = 92 ∨ c = 8 ∨ c = 9 ∨ c = 10 ∨ c = 12 ∨ c = 13 := by
    rw [Ne, shortI_zero, Classical.not_not] at hc; exact hc
  unfold escI
  rw [hs, if_neg (by omega), e0, b0]
  rcases hk with rfl | rfl | rfl | rfl | rfl | rfl | rfl <;> simp [shortI]
theorem esc_ctrl (q : ByteArray) (i : Nat) (c : Int) (tl : List Int) (h0 : 0 ≤ c) (h1 : c < 256) (h : (bytesOf q).drop i = 117 :: 48 :: 48 :: hexI (c / 16) :: hexI (c % 16) :: tl) : escI (q.extract i q.size) = (c, 5) := by
  have hz := drop_size q i _ h
  simp only [List.length_cons] at hz
  have q1 := hexI_low (c / 16) (by omega) (by omega)
  have q2 := hexI_low (c % 16) (by omega) (by omega)
  have b : ∀ j : Nat, bt (q.extract i q.size) (j : Int) = (117 :: 48 :: 48 :: hexI (c / 16) :: hexI (c % 16) :: tl).getD j 0 := by
    intro j
    rw [bt_extract q i j (by omega) (by omega)]
    exact bt_of_drop q i _ h j
  have b0 := b 0
  have b1 := b 1
  have b2 := b 2
  have b3 := b 3
  have b4 := b 4
  simp at b0 b1 b2 b3 b4
  have hs : (q.extract i q.size).size = q.size - i := by simp
  have hh : hex4 (q.extract i q.size) 1 = c := by
    unfold hex4
    rw [hs, if_neg (by omega), b1, show (1 : Int) + 1 = 2 from rfl, show (1 : Int) + 2 = 3 from rfl, show (1 : Int) + 3 = 4 from rfl, b2, b3, b4]
    simp only [hexAcc]
    rw [show valI 48 = 0 by decide, q1.2.2, q2.2.2, if_neg (by omega), if_neg (by omega), if_neg (by omega), if_neg (by omega)]
    omega
  unfold escI
  rw [hs, if_neg (by omega), b0]
  have hp : pairI (q.extract i q.size) = (c, 5) := by
    unfold pairI
    rw [hh, if_neg (by omega), if_pos (by omega)]
  rw [hp]
  simp
theorem qrun_back (q : ByteArray) : ∀ (rest : List Int) (i k : Nat) (acc : List Int), (∀ x ∈ rest, 0 ≤ x ∧ x < 256) → (bytesOf q).drop i = rest.flatMap qb ++ [34] → q.size - i ≤ k → qrun q k i acc = (acc ++ rest, (q.size : Int), 0, 0) := by
  intro rest
  induction rest with
  | nil =>
    intro i k acc _ h hk
    rw [List.flatMap_nil, List.nil_append] at h
    have hz := drop_size q i _ h
    simp at hz
    have b0 := bt_of_drop q i _ h 0
    simp at b0
    obtain ⟨k, rfl⟩ : ∃ k', k = k' + 1 := ⟨k - 1, by omega⟩
    rw [qrun, if_pos (by omega), if_pos b0, List.append_nil]
    rw [show (i : Int) + 1 = (q.size : Int) by omega]
  | cons c rest ih =>
    intro i k acc hr h hk
    have hc := hr c List.mem_cons_self
    have hr' := fun x hx => hr x (List.mem_cons_of_mem c hx)
    rw [List.flatMap_cons, List.append_assoc] at h
    have hz := drop_size q i _ h
    have hq := qb_length c
    rw [List.length_append] at hz
    obtain ⟨k, rfl⟩ : ∃ k', k = k' + 1 := ⟨k - 1, by omega⟩
    have b0 := bt_of_drop q i _ h 0
    rw [Int.natCast_zero, Int.add_zero] at b0
    rw [qrun, if_pos (by omega)]
    by_cases k1 : shortI c ≠ 0
    · have e : qb c = [92, shortI c] := by unfold qb; rw [if_pos k1]
      rw [e] at h hz b0
      simp at b0 hz
      have hd1 := drop_more q i 1 [92] _ h rfl
      have hd2 := drop_more q i 2 _ _ h rfl
      have hes := esc_short q (i + 1) c _ k1 hd1
      have hl : encI c = [c] := by
        have hk : c = 34 ∨ c = 92 ∨ c = 8 ∨ c = 9 ∨ c = 10 ∨ c = 12 ∨ c = 13 := Classical.not_not.1 (fun h => k1 ((shortI_zero c).2 h))
        unfold encI; rw [if_pos (by omega)]
      rw [b0, if_neg (by decide), if_neg (by decide), if_pos rfl, hes]; simp only; rw [if_neg (by decide)]
      rw [show i + 1 + ((1 : Int)).toNat = i + 2 from rfl, ih (i + 2) k _ hr' hd2 (by omega), hl]
      simp
    · have k1' : shortI c = 0 := Classical.not_not.1 k1
      have k3 := (shortI_zero c).1 k1'
      by_cases k2 : c < 32 ∨ c = 127
      · have e : qb c = [92, 117, 48, 48, hexI (c / 16), hexI (c % 16)] := by unfold qb; rw [if_neg k1, if_pos k2]
        rw [e] at h hz b0
        simp at b0 hz
        have hd1 := drop_more q i 1 [92] _ h rfl
        have hd2 := drop_more q i 6 _ _ h rfl
        have hes := esc_ctrl q (i + 1) c _ hc.1 hc.2 hd1
        have hl : encI c = [c] := by unfold encI; rw [if_pos (by omega)]
        rw [b0, if_neg (by decide), if_neg (by decide), if_pos rfl, hes]; simp only; rw [if_neg (by decide)]
        rw [show i + 1 + ((5 : Int)).toNat = i + 6 from rfl, ih (i + 6) k _ hr' hd2 (by omega), hl]
        simp
      · have e : qb c = [c] := by unfold qb; rw [if_neg k1, if_neg k2]
        rw [e] at h hz b0
        simp at b0 hz
        have hd2 := drop_more q i 1 _ _ h rfl
        rw [b0, if_neg (by omega), if_neg (by omega), if_neg (by omega), ih (i + 1) k _ hr' hd2 (by omega)]
        simp
/-- Unquote of what Quote writes. -/
theorem unq_quote {s : ByteArray} {l : List Int} (h : Scan s 0 l none) :
    Scan (strOfNums (quoteI (bytesOf s))) 0 (34 :: (l.flatMap qr ++ [34])) none ∧ unqI (strOfNums (quoteI (bytesOf s))) none = (bytesOf s, 0, 0) := by
  obtain ⟨h1, h2⟩ := scan_bytes h
  have hq := quote_enc l h1
  constructor
  · rw [h2, hq.1]; exact scan_str _ hq.2
  · have hb := bytesOf_str (quoteI (bytesOf s)) (quoteI_bytes s)
    obtain ⟨q, hqq⟩ : ∃ q, strOfNums (quoteI (bytesOf s)) = q := ⟨_, rfl⟩
    rw [hqq] at hb ⊢
    have hz : q.size = (quoteI (bytesOf s)).length := by rw [← hb, bytesOf_length]
    have hd : (bytesOf q).drop 1 = (bytesOf s).flatMap qb ++ [34] := by rw [hb]; rfl
    have hr := qrun_back q (bytesOf s) 1 q.size [] (bytesOf_range s) hd (by omega)
    have b0 := bt_of_drop q 0 _ (by rw [List.drop_zero, hb]) 0
    simp [quoteI] at b0
    have hp : 0 < q.size := by rw [hz]; simp [quoteI]
    unfold unqI
    rw [hr]
    simp only [List.nil_append]
    rw [if_neg (by omega), if_neg (by simp [b0]), if_neg (by simp), if_neg (by omega)]
end Go.Proofs.YtgdfgahpjebcaaaDoor
