/-
  Escaped texts are read back, plainly.
-/
import Derived.Test.YtgdfgahpjebcaaaDoorBkp
set_option linter.unusedSimpArgs false
set_option linter.unusedVariables false
namespace Go.Proofs.YtgdfgahpjebcaaaDoor
open Go.RowKit Go.Proofs.YtgdfgahpjebcaaaDoorW.PrintWords Go.Proofs.YtgdfgahpjebcaaaDoor.PT

theorem eb_high (attr : Bool) (x : Int) (h : 128 ≤ x) : eb attr x = [x] := by
  have e : refB x attr = ⟨#[]⟩ := by
    unfold refB
    repeat' split
    all_goals (first | rfl | omega)
  unfold eb; rw [e]; rfl
theorem eb_low (attr : Bool) (c : Int) (h0 : 0 ≤ c) (h1 : c < 128) : ∀ x ∈ eb attr c, 0 ≤ x ∧ x < 128 := by
  have ha : (bytesOf (refB c attr)).all (fun x => decide (0 ≤ x ∧ x < 128)) = true := by
    unfold refB
    repeat' split
    all_goals decide
  intro x hx
  unfold eb at hx
  split at hx
  · simp at hx; omega
  · exact of_decide_eq_true (List.all_eq_true.1 ha x hx)
/-- How a character is escaped. -/
def er (attr : Bool) (c : Int) : List Int := if c < 128 then eb attr c else [c]
theorem er_char (attr : Bool) (c : Int) (h : charB c = true) : (er attr c).all charB = true := by
  have hc := (charB_spec c).1 h
  unfold er
  split
  · rw [List.all_eq_true]; exact fun x hx => charB_low x (eb_low attr c hc.1 (by assumption) x hx)
  · simp [h]
theorem er_enc (attr : Bool) (c : Int) (h : charB c = true) : (encI c).flatMap (eb attr) = encs (er attr c) := by
  have hc := (charB_spec c).1 h
  unfold er
  by_cases h1 : c < 128
  · rw [if_pos h1, encs_low _ (fun x hx => (eb_low attr c hc.1 h1 x hx).2)]
    have : encI c = [c] := by unfold encI; rw [if_pos h1]
    rw [this]; simp
  · rw [if_neg h1, flat_one (eb attr) (encI c) (fun x hx => eb_high attr x (encI_high c h (by omega) x hx))]
    simp [encs]

theorem pfxB_bytes (t p : ByteArray) : pfxB t p = ((bytesOf t).take p.size == bytesOf p) := by
  unfold pfxB bytesOf
  rw [← List.map_take]
  have hi := @List.map_inj_right UInt8 Int (t.data.toList.take p.size) p.data.toList (fun b : UInt8 => (b.toNat : Int)) (fun x y e => UInt8.toNat_inj.1 (by omega))
  by_cases h : t.data.toList.take p.size = p.data.toList
  · rw [h]; simp
  · rw [beq_eq_false_iff_ne.2 h, beq_eq_false_iff_ne.2 (fun e => h (hi.1 e))]
theorem pfx_known (t p : ByteArray) (l tl : List Int) (hb : bytesOf t = l ++ tl) (hl : p.size ≤ l.length) : pfxB t p = (l.take p.size == bytesOf p) := by
  rw [pfxB_bytes, hb, List.take_append_of_le_length hl]
theorem pfx_ne (t p : ByteArray) (l tl : List Int) (n : Nat) (hb : bytesOf t = l ++ tl) (hn : n ≤ p.size) (hl : n ≤ l.length) (hne : l.take n ≠ (bytesOf p).take n) : pfxB t p = false := by
  rw [pfxB_bytes, hb, beq_eq_false_iff_ne]
  intro e
  apply hne
  rw [← e, List.take_take, Nat.min_eq_left hn, List.take_append_of_le_length hl]
theorem bytesOf_extract (s : ByteArray) (i : Nat) : bytesOf (s.extract i s.size) = (bytesOf s).drop i := by
  unfold bytesOf
  rw [← List.map_drop]
  congr 1
  rw [ByteArray.data_extract, Array.toList_extract]
  apply List.take_of_length_le
  rw [List.length_drop, data_length]
  exact Nat.le_refl _
theorem valI_digit (d : Int) (h0 : 0 ≤ d) (h1 : d < 10) : valI (48 + d) = d := by unfold valI; rw [if_pos (by omega)]; omega
theorem bt_known (u : ByteArray) (l : List Int) (hb : bytesOf u = l) (j : Nat) : bt u (j : Int) = l.getD j 0 := by
  have := bt_of_drop u 0 l (by rw [List.drop_zero, hb]) j
  simpa using this
theorem nrun_end (u : ByteArray) (base : Int) (f k i : Nat) (r : Int) (hb : bt u (i : Int) = 59) (hi : i ≠ f) (hz : i < u.size) (hx : xmlB r = true) : nrun u base f (k + 1) i r = (r, (i : Int) + 1) := by
  rw [nrun, if_neg (by rw [hb]; exact fun h => absurd h.2.1 (by decide)), if_neg (by rw [hb, hx]; rintro (h | h | h | h) <;> first | omega | exact h rfl | cases h)]
theorem num1 (u : ByteArray) (d : Int) (tl : List Int) (h0 : 0 ≤ d) (h1 : d < 10) (hx : xmlB d = true) (hb : bytesOf u = (48 + d) :: 59 :: tl) : numI u = (d, 2) := by
  have hz : u.size = tl.length + 2 := by rw [← bytesOf_length, hb]; rfl
  have b0 : bt u ((0 : Nat) : Int) = 48 + d := by rw [bt_known u _ hb]; rfl
  have b1 : bt u ((0 + 1 : Nat) : Int) = 59 := by rw [bt_known u _ hb]; rfl
  have hv := valI_digit d h0 h1
  unfold numI
  rw [if_neg (by rw [Int.natCast_zero] at b0; omega), nrun, if_pos (by rw [b0, hv]; omega), if_neg (by decide), b0, hv, nrun_end u 10 0 7 (0 + 1) _ b1 (by decide) (by omega) (by rw [show (0 : Int) * 10 + d = d by omega]; exact hx)]
  exact Prod.ext (by show (0 : Int) * 10 + d = d; omega) rfl
theorem num2 (u : ByteArray) (a b : Int) (tl : List Int) (h0 : 0 ≤ a) (h1 : a < 10) (g0 : 0 ≤ b) (g1 : b < 10) (hx : xmlB (a * 10 + b) = true) (hb : bytesOf u = (48 + a) :: (48 + b) :: 59 :: tl) : numI u = (a * 10 + b, 3) := by
  have hz : u.size = tl.length + 3 := by rw [← bytesOf_length, hb]; rfl
  have b0 : bt u ((0 : Nat) : Int) = 48 + a := by rw [bt_known u _ hb]; rfl
  have b1 : bt u ((0 + 1 : Nat) : Int) = 48 + b := by rw [bt_known u _ hb]; rfl
  have b2 : bt u ((0 + 1 + 1 : Nat) : Int) = 59 := by rw [bt_known u _ hb]; rfl
  have hv := valI_digit a h0 h1
  have hw := valI_digit b g0 g1
  unfold numI
  rw [if_neg (by rw [Int.natCast_zero] at b0; omega), nrun, if_pos (by rw [b0, hv]; omega), if_neg (by decide), b0, hv, nrun, if_pos (by rw [b1, hw]; omega), if_neg (by decide), b1, hw, nrun_end u 10 0 6 (0 + 1 + 1) _ b2 (by decide) (by omega) (by rw [show ((0 : Int) * 10 + a) * 10 + b = a * 10 + b by omega]; exact hx)]
  exact Prod.ext (by show ((0 : Int) * 10 + a) * 10 + b = a * 10 + b; omega) rfl
/-- What a reference of Escape's says. -/
theorem ref_num (t : ByteArray) (tl : List Int) (r n : Int) (hn : 0 < n) (hb : bytesOf t = 38 :: 35 :: tl) (h : ∀ u, bytesOf u = tl → numI u = (r, n)) : refI t = (r, n + 2) := by
  have hp := pfx_known t ⟨#[38, 35]⟩ [38, 35] tl hb (by decide)
  have hu := h (t.extract 2 t.size) (by rw [bytesOf_extract, hb]; rfl)
  unfold refI
  rw [if_pos (by rw [hp]; decide), hu, if_pos hn]
theorem ref_name (t : ByteArray) (l tl : List Int) (k : Nat) (r : Int × Int) (hb : bytesOf t = l ++ tl) (hl : 2 ≤ l.length) (hne : l.take 2 ≠ [38, 35]) (h : nameI t 5 0 = r) : refI t = r := by
  unfold refI
  rw [if_neg (by rw [pfx_ne t ⟨#[38, 35]⟩ l tl 2 hb (by decide) hl (by rw [show (bytesOf (⟨#[38, 35]⟩ : ByteArray)) = [38, 35] by decide]; exact hne)]; decide), h]
theorem ref_back (attr : Bool) (c : Int) (t : ByteArray) (tl : List Int) (hr : (refB c attr).size ≠ 0) (hb : bytesOf t = bytesOf (refB c attr) ++ tl) : refI t = (c, ((refB c attr).size : Int)) := by
  have hk : c = 38 ∨ c = 60 ∨ c = 62 ∨ c = 13 ∨ (attr = true ∧ (c = 34 ∨ c = 9 ∨ c = 10)) := by
    unfold refB at hr
    cases attr
    · simp at hr
      by_cases k1 : c = 38
      · omega
      · by_cases k2 : c = 60
        · omega
        · by_cases k3 : c = 62
          · omega
          · by_cases k4 : c = 13
            · omega
            · exfalso; simp [k1, k2, k3, k4] at hr; exact hr rfl
    · by_cases k1 : c = 38
      · omega
      · by_cases k2 : c = 60
        · omega
        · by_cases k3 : c = 62
          · omega
          · by_cases k4 : c = 13
            · omega
            · by_cases k5 : c = 34
              · simp [k5]
              · by_cases k6 : c = 9
                · simp [k6]
                · by_cases k7 : c = 10
                  · simp [k7]
                  · exfalso; simp [k1, k2, k3, k4, k5, k6, k7] at hr; exact hr rfl
  have ha : ∀ (p : ByteArray), bytesOf t = bytesOf p ++ tl → ∀ q : ByteArray, (bytesOf p).take 2 ≠ (bytesOf q).take 2 → 2 ≤ q.size → 2 ≤ (bytesOf p).length → pfxB t q = false :=
    fun p h q h2 h3 h4 => pfx_ne t q _ tl 2 h h3 h4 h2
  have hy : ∀ (p : ByteArray), bytesOf t = bytesOf p ++ tl → pfxB t p = true := by
    intro p h
    rw [pfx_known t p _ tl h (by rw [bytesOf_length]; exact Nat.le_refl _), List.take_of_length_le (by rw [bytesOf_length]; exact Nat.le_refl _)]
    simp
  rcases hk with rfl | rfl | rfl | rfl | ⟨rfl, rfl | rfl | rfl⟩
  · have e : refB 38 attr = ⟨#[38, 97, 109, 112, 59]⟩ := rfl
    rw [e] at hb ⊢
    refine ref_name t _ tl 0 _ hb (by decide) (by decide) ?_
    simp only [nameI, nameAt]
    rw [if_pos (hy _ hb)]
  · have e : refB 60 attr = ⟨#[38, 108, 116, 59]⟩ := rfl
    rw [e] at hb ⊢
    refine ref_name t _ tl 0 _ hb (by decide) (by decide) ?_
    simp only [nameI, nameAt]
    rw [if_neg (by rw [ha _ hb _ (by decide) (by decide) (by decide)]; decide), if_pos (hy _ hb)]
  · have e : refB 62 attr = ⟨#[38, 103, 116, 59]⟩ := rfl
    rw [e] at hb ⊢
    refine ref_name t _ tl 0 _ hb (by decide) (by decide) ?_
    simp only [nameI, nameAt]
    rw [if_neg (by rw [ha _ hb _ (by decide) (by decide) (by decide)]; decide), if_neg (by rw [ha _ hb _ (by decide) (by decide) (by decide)]; decide), if_pos (hy _ hb)]
  · have e : refB 13 attr = ⟨#[38, 35, 49, 51, 59]⟩ := rfl
    rw [e] at hb ⊢
    exact ref_num t (49 :: 51 :: 59 :: tl) 13 3 (by decide) hb (fun u hu => num2 u 1 3 tl (by decide) (by decide) (by decide) (by decide) (by decide) hu)
  · have e : refB 34 true = ⟨#[38, 113, 117, 111, 116, 59]⟩ := rfl
    rw [e] at hb ⊢
    refine ref_name t _ tl 0 _ hb (by decide) (by decide) ?_
    simp only [nameI, nameAt]
    rw [if_neg (by rw [ha _ hb _ (by decide) (by decide) (by decide)]; decide), if_neg (by rw [ha _ hb _ (by decide) (by decide) (by decide)]; decide), if_neg (by rw [ha _ hb _ (by decide) (by decide) (by decide)]; decide), if_pos (hy _ hb)]
  · have e : refB 9 true = ⟨#[38, 35, 57, 59]⟩ := rfl
    rw [e] at hb ⊢
    exact ref_num t (57 :: 59 :: tl) 9 2 (by decide) hb (fun u hu => num1 u 9 tl (by decide) (by decide) (by decide) hu)
  · have e : refB 10 true = ⟨#[38, 35, 49, 48, 59]⟩ := rfl
    rw [e] at hb ⊢
    exact ref_num t (49 :: 48 :: 59 :: tl) 10 3 (by decide) hb (fun u hu => num2 u 1 0 tl (by decide) (by decide) (by decide) (by decide) (by decide) hu)

theorem ref_start (attr : Bool) (c : Int) (hr : (refB c attr).size ≠ 0) : ∃ tl, bytesOf (refB c attr) = 38 :: tl := by
  unfold refB at hr ⊢
  repeat' split at hr
  all_goals (first | exact absurd rfl hr | skip)
  all_goals simp_all
  all_goals exact ⟨_, rfl⟩
theorem ref_none (attr : Bool) (c : Int) (hr : (refB c attr).size = 0) : c ≠ 38 ∧ c ≠ 60 := by
  constructor
  · rintro rfl; exact absurd hr (by show ¬ (5 : Nat) = 0; decide)
  · rintro rfl; exact absurd hr (by show ¬ (4 : Nat) = 0; decide)
theorem ref_low (attr : Bool) (c : Int) (hr : (refB c attr).size ≠ 0) : c < 128 ∧ encI c = [c] := by
  have h : c < 128 := by
    by_cases hc : c < 128
    · exact hc
    · exfalso
      apply hr
      unfold refB
      repeat' split
      all_goals (first | rfl | omega)
  exact ⟨h, by unfold encI; rw [if_pos h]⟩

theorem urun_back (attr : Bool) (x : ByteArray) : ∀ (rest : List Int) (i k : Nat) (acc : List Int), (∀ c ∈ rest, xmlB c = true) → (bytesOf x).drop i = encs (rest.flatMap (er attr)) → x.size - i ≤ k → urun x k i acc = (acc ++ encs rest, 0, 0) := by
  intro rest
  induction rest with
  | nil =>
    intro i k acc _ h hk
    have hz := drop_size x i _ h
    simp [encs] at hz
    cases k with
    | zero => rw [urun, encs_nil, List.append_nil]
    | succ k => rw [urun, if_neg (by omega), encs_nil, List.append_nil]
  | cons c rest ih =>
    intro i k acc hr h hk
    have hc := hr c List.mem_cons_self
    have hcc := xml_char hc
    have hr' := fun x hx => hr x (List.mem_cons_of_mem c hx)
    rw [List.flatMap_cons, encs_app] at h
    have hz := drop_size x i _ h
    rw [List.length_append] at hz
    by_cases k1 : (refB c attr).size = 0
    · have e : er attr c = [c] := by unfold er eb; rw [if_pos k1]; split <;> rfl
      have hn := ref_none attr c k1
      rw [e, show encs [c] = encI c by simp [encs]] at h hz
      have hl := encI_length c
      have hd := dec_enc x i c _ hcc h
      have hd2 := drop_more x i (encI c).length _ _ h rfl
      obtain ⟨k, rfl⟩ : ∃ k', k = k' + 1 := ⟨k - 1, by omega⟩
      rw [urun, if_pos (by omega), hd]
      simp only
      rw [if_neg (by rw [hc]; simp [hn.2]), if_neg hn.1]
      rw [show (((encI c).length : Nat) : Int).toNat = (encI c).length from rfl, ih _ k _ hr' hd2 (by omega), encs_cons, List.append_assoc]
    · have hlo := ref_low attr c k1
      have hch := (charB_spec c).1 hcc
      have e : er attr c = bytesOf (refB c attr) := by unfold er eb; rw [if_pos hlo.1, if_neg k1]
      have ee : encs (er attr c) = bytesOf (refB c attr) := by
        rw [e]
        refine encs_low _ (fun y hy => ?_)
        have := eb_low attr c hch.1 hlo.1 y (by unfold eb; rw [if_neg k1]; exact hy)
        exact this.2
      rw [ee] at h hz
      obtain ⟨tl, htl⟩ := ref_start attr c k1
      have hd := dec_enc x i 38 (tl ++ encs (rest.flatMap (er attr))) (by decide) (by rw [h, htl]; rfl)
      have hrf := ref_back attr c (x.extract i x.size) _ k1 (by rw [bytesOf_extract, h])
      have hd2 := drop_more x i (refB c attr).size _ _ h (by rw [bytesOf_length])
      have hsz : (bytesOf (refB c attr)).length = (refB c attr).size := bytesOf_length _
      obtain ⟨k, rfl⟩ : ∃ k', k = k' + 1 := ⟨k - 1, by omega⟩
      rw [urun, if_pos (by omega), hd]
      simp only
      rw [if_neg (by decide), if_pos True.intro, hrf]
      simp only
      rw [if_neg (by omega), show (((refB c attr).size : Nat) : Int).toNat = (refB c attr).size from rfl, ih _ k _ hr' hd2 (by omega), encs_cons, hlo.2, List.append_assoc]
theorem badX_all (l : List Int) : ∀ i, ¬ 0 ≤ badX i l → ∀ c ∈ l, xmlB c = true := by
  induction l with
  | nil => intro i _ c hc; cases hc
  | cons c l ih =>
    intro i h
    unfold badX at h
    split at h
    · rename_i hx
      intro d hd
      rcases List.mem_cons.1 hd with rfl | hd
      · exact hx
      · exact ih _ h d hd
    · omega
/-- Unescape of what Escape writes. -/
theorem une_escape (attr : Bool) {s : ByteArray} {l : List Int} (h : Scan s 0 l none) (h2 : (escS attr s l none).2 = 0) :
    Scan (strOfNums (escS attr s l none).1) 0 (l.flatMap (er attr)) none ∧ uneI (strOfNums (escS attr s l none).1) none = (bytesOf s, 0, 0) := by
  obtain ⟨h1, hb⟩ := scan_bytes h
  have hx : ¬ 0 ≤ badX 0 l := by
    intro hx
    unfold escS at h2
    rw [if_pos hx] at h2
    exact absurd h2 (by decide)
  have e : (escS attr s l none).1 = (bytesOf s).flatMap (eb attr) := by unfold escS; rw [if_neg hx]
  rw [e]
  have hf : (bytesOf s).flatMap (eb attr) = encs (l.flatMap (er attr)) := by rw [hb]; exact flat_enc (eb attr) (er attr) l (fun c hc => er_enc attr c (List.all_eq_true.1 h1 c hc))
  have hall : (l.flatMap (er attr)).all charB = true := by
    rw [List.all_flatMap, List.all_eq_true]
    exact fun c hc => er_char attr c (List.all_eq_true.1 h1 c hc)
  constructor
  · rw [hf]; exact scan_str _ hall
  · have hbx := bytesOf_str _ (ebs_bytes attr s)
    obtain ⟨x, hxx⟩ : ∃ x, strOfNums ((bytesOf s).flatMap (eb attr)) = x := ⟨_, rfl⟩
    rw [hxx] at hbx ⊢
    have := urun_back attr x l 0 x.size [] (badX_all l 0 hx) (by rw [List.drop_zero, hbx, hf]) (by omega)
    rw [List.nil_append, ← hb] at this
    exact this
end Go.Proofs.YtgdfgahpjebcaaaDoor
