import Derived.Test.YtgdfgahpjebcaaaGreatDoorMa
import Derived.Test.YtgdfgahpjebcaaaGreatDoorPTx
import Derived.Test.YtgdfgahpjebcaaaGreatDoorShelf
import Derived.Test.YtgdfgahpjebcaaaGreatDoorWWords
import Derived.Lib.Builder
import Derived.Lib.AppendStr
import Derived.Test.YtgdfgahpjebcaaaGreatDoorWEqStruct
set_option linter.unusedSimpArgs false
set_option linter.unusedVariables false
/-
  What text.First and the reference's One come to: one plain decoder, dec; what it reads is what encI writes.
-/
namespace Go.Proofs.YtgdfgahpjebcaaaGreatDoor
open Go.RowKit Go.Proofs.YtgdfgahpjebcaaaGreatDoorW.PrintWords Go.Proofs.YtgdfgahpjebcaaaGreatDoor.PT

def chk (c n least : Int) : Int × Int := if c < least then (0, 0) else if charB c = true then (c, n) else (0, 0)
/-- The character at a byte, and how many bytes it has; 0: none. -/
def dec (s : ByteArray) (i : Int) : Int × Int :=
  if bt s i < 128 then (bt s i, 1)
  else if 192 ≤ bt s i ∧ bt s i < 224 then
    (if i + 2 ≤ s.size ∧ bt s (i + 1) / 64 = 2 then chk ((bt s i - 192) * 64 + (bt s (i + 1) - 128)) 2 128 else (0, 0))
  else if 224 ≤ bt s i ∧ bt s i < 240 then
    (if i + 3 ≤ s.size ∧ bt s (i + 1) / 64 = 2 ∧ bt s (i + 2) / 64 = 2 then chk (((bt s i - 224) * 64 + (bt s (i + 1) - 128)) * 64 + (bt s (i + 2) - 128)) 3 2048 else (0, 0))
  else if 240 ≤ bt s i ∧ bt s i < 248 then
    (if i + 4 ≤ s.size ∧ bt s (i + 1) / 64 = 2 ∧ bt s (i + 2) / 64 = 2 ∧ bt s (i + 3) / 64 = 2 then chk ((((bt s i - 240) * 64 + (bt s (i + 1) - 128)) * 64 + (bt s (i + 2) - 128)) * 64 + (bt s (i + 3) - 128)) 4 65536 else (0, 0))
  else (0, 0)

theorem char_f (r : Int) : emendref1_Char.f r = some (charB r) := character_f r

theorem w64 {n : Int} (h0 : -9223372036854775808 ≤ n) (h1 : n ≤ 9223372036854775807) : wrap64 n = n := by unfold wrap64; omega

/-! ### The reference's One -/
theorem one_tail (k : Nat) (s : ByteArray) (i sz low c j : Int) (hj : ¬ j < sz) : emendref1_One.l0 (k + 1) s i sz low c j = some (chk c sz low) := by
  simp only [emendref1_One.l0]; rw [if_neg hj]
  unfold chk
  by_cases h1 : c < low
  · rw [if_pos h1, if_pos h1]
  · rw [if_neg h1, if_neg h1, char_f]
    cases charB c <;> simp
theorem one_step (k : Nat) (s : ByteArray) (i sz low c j : Int) (hj : j < sz) (hi : 0 ≤ i) (hj0 : 0 ≤ j) (hs : i + sz ≤ s.size) (hsz : s.size ≤ 140737488355328) (hc0 : 0 ≤ c) (hc1 : c ≤ 1000000000) :
    emendref1_One.l0 (k + 1) s i sz low c j = if bt s (i + j) / 64 = 2 then emendref1_One.l0 k s i sz low (c * 64 + (bt s (i + j) - 128)) (j + 1) else some (0, 0) := by
  have hb := bt_range s (i + j)
  simp only [emendref1_One.l0]
  rw [if_pos hj, w64 (n := i + j) (by omega) (by omega), if_pos (by omega), if_pos (by omega), w64 (n := bt s (i + j)) (by omega) (by omega)]
  by_cases h : bt s (i + j) / 64 = 2
  · rw [if_pos h, if_neg (by omega), if_neg (by omega)]
    rw [w64 (n := c * 64) (by omega) (by omega), w64 (n := c * 64 + bt s (i + j)) (by omega) (by omega), w64 (n := c * 64 + bt s (i + j) - 128) (by omega) (by omega), w64 (n := j + 1) (by omega) (by omega)]
    congr 1; omega
  · rw [if_neg h]
    by_cases h2 : bt s (i + j) < 128
    · rw [if_pos h2]
    · rw [if_neg h2, if_pos (by omega)]
theorem chk_size (c n least : Int) : chk c n least = (0, 0) ∨ chk c n least = (c, n) := by
  unfold chk; split
  · exact .inl rfl
  · split
    · exact .inr rfl
    · exact .inl rfl
theorem one_j2 (k : Nat) (s : ByteArray) (i sz low c : Int) (hi : 0 ≤ i) (hs : i < s.size) (hsz : s.size ≤ 140737488355328) (h2 : 2 ≤ sz) (h4 : sz ≤ 4) :
    emendref1_One.j2 (k + 7) s i sz low c = if i + sz ≤ s.size then emendref1_One.l0 (k + 5) s i sz low c 1 else some (0, 0) := by
  simp only [emendref1_One.j2]
  rw [if_neg (by omega)]
  simp only [emendref1_One.j3]
  rw [w64 (n := i + sz) (by omega) (by omega)]
  by_cases h : i + sz ≤ s.size
  · rw [if_pos h, if_neg (by simp; omega)]
  · rw [if_neg h, if_pos (by simp; omega)]
theorem one_f (k : Nat) (s : ByteArray) (i : Int) (hi : 0 ≤ i) (hs : i < s.size) (hsz : s.size ≤ 140737488355328) : emendref1_One.f (k + 9) s i = some (dec s i) := by
  have hb := bt_range s i
  have hb1 := bt_range s (i + 1)
  have hb2 := bt_range s (i + 2)
  have hb3 := bt_range s (i + 3)
  unfold emendref1_One.f dec
  rw [if_pos hi, if_pos hs, w64 (n := bt s i) (by omega) (by omega)]
  by_cases h1 : bt s i < 128
  · rw [if_pos h1, if_pos h1]
  · rw [if_neg h1, if_neg h1]
    by_cases h2 : 192 ≤ bt s i
    · rw [if_pos h2]
      by_cases h3 : bt s i < 224
      · rw [if_pos (show 192 ≤ bt s i ∧ bt s i < 224 from ⟨h2, h3⟩)]
        simp only [emendref1_One.j0]
        rw [if_pos (by simpa using h3), w64 (n := bt s i - 192) (by omega) (by omega), one_j2 _ s i 2 _ _ hi hs hsz (by omega) (by omega)]
        by_cases h4 : i + 2 ≤ s.size
        · rw [if_pos h4, one_step _ s i 2 _ _ 1 (by omega) hi (by omega) h4 hsz (by omega) (by omega)]
          by_cases h5 : bt s (i + 1) / 64 = 2
          · rw [if_pos h5, if_pos ⟨h4, h5⟩, one_tail _ s i 2 _ _ _ (by omega)]
          · rw [if_neg h5, if_neg (fun h => h5 h.2)]
        · rw [if_neg h4, if_neg (fun h => h4 h.1)]
      · rw [if_neg (show ¬ (192 ≤ bt s i ∧ bt s i < 224) by omega)]
        simp only [emendref1_One.j0]
        rw [if_neg (by simpa using h3), if_pos (by omega)]
        by_cases h4 : bt s i < 240
        · rw [if_pos (show 224 ≤ bt s i ∧ bt s i < 240 by omega)]
          simp only [emendref1_One.j1]
          rw [if_pos (by simpa using h4), w64 (n := bt s i - 224) (by omega) (by omega), one_j2 _ s i 3 _ _ hi hs hsz (by omega) (by omega)]
          by_cases h5 : i + 3 ≤ s.size
          · rw [if_pos h5, one_step _ s i 3 _ _ 1 (by omega) hi (by omega) h5 hsz (by omega) (by omega)]
            by_cases h6 : bt s (i + 1) / 64 = 2
            · rw [if_pos h6, show (1 : Int) + 1 = 2 from rfl, one_step _ s i 3 _ _ 2 (by omega) hi (by omega) h5 hsz (by omega) (by omega)]
              by_cases h7 : bt s (i + 2) / 64 = 2
              · rw [if_pos h7, if_pos ⟨h5, h6, h7⟩, one_tail _ s i 3 _ _ _ (by omega)]
              · rw [if_neg h7, if_neg (fun h => h7 h.2.2)]
            · rw [if_neg h6, if_neg (fun h => h6 h.2.1)]
          · rw [if_neg h5, if_neg (fun h => h5 h.1)]
        · rw [if_neg (show ¬ (224 ≤ bt s i ∧ bt s i < 240) by omega)]
          simp only [emendref1_One.j1]
          rw [if_neg (by simpa using h4), if_pos (by omega)]
          by_cases h5 : bt s i < 248
          · rw [if_pos h5, if_pos (show 240 ≤ bt s i ∧ bt s i < 248 by omega), w64 (n := bt s i - 240) (by omega) (by omega), one_j2 _ s i 4 _ _ hi hs hsz (by omega) (by omega)]
            by_cases h6 : i + 4 ≤ s.size
            · rw [if_pos h6, one_step _ s i 4 _ _ 1 (by omega) hi (by omega) h6 hsz (by omega) (by omega)]
              by_cases h7 : bt s (i + 1) / 64 = 2
              · rw [if_pos h7, show (1 : Int) + 1 = 2 from rfl, one_step _ s i 4 _ _ 2 (by omega) hi (by omega) h6 hsz (by omega) (by omega)]
                by_cases h8 : bt s (i + 2) / 64 = 2
                · rw [if_pos h8, show (2 : Int) + 1 = 3 from rfl, one_step _ s i 4 _ _ 3 (by omega) hi (by omega) h6 hsz (by omega) (by omega)]
                  by_cases h9 : bt s (i + 3) / 64 = 2
                  · rw [if_pos h9, if_pos ⟨h6, h7, h8, h9⟩, one_tail _ s i 4 _ _ _ (by omega)]
                  · rw [if_neg h9, if_neg (fun h => h9 h.2.2.2)]
                · rw [if_neg h8, if_neg (fun h => h8 h.2.2.1)]
              · rw [if_neg h7, if_neg (fun h => h7 h.2.1)]
            · rw [if_neg h6, if_neg (fun h => h6 h.1)]
          · rw [if_neg h5, if_neg (show ¬ (240 ≤ bt s i ∧ bt s i < 248) by omega)]
            simp only [emendref1_One.j2, emendref1_One.j3, if_true]
    · rw [if_neg h2, if_neg (show ¬ (192 ≤ bt s i ∧ bt s i < 224) by omega), if_neg (show ¬ (224 ≤ bt s i ∧ bt s i < 240) by omega), if_neg (show ¬ (240 ≤ bt s i ∧ bt s i < 248) by omega)]
      simp only [emendref1_One.j0]
      rw [if_neg (by decide), if_neg (by omega)]
      simp only [emendref1_One.j1]
      rw [if_neg (by decide), if_neg (by omega)]
      simp only [emendref1_One.j2, emendref1_One.j3, if_true]

/-! ### The program's First -/
theorem first_tail (k : Nat) (s : ByteArray) (r n least j : Int) (hj : ¬ j < n) : text_First.l0 (k + 1) s r n least j = some (chk r n least) := by
  simp only [text_First.l0]; rw [if_neg hj]
  unfold chk
  by_cases h1 : r < least
  · rw [if_pos h1, if_pos h1]
  · rw [if_neg h1, if_neg h1, character_f]
    cases charB r <;> simp
theorem first_step (k : Nat) (s : ByteArray) (r n least j : Int) (hj : j < n) (hj0 : 0 ≤ j) (hs : n ≤ s.size) (hn : n ≤ 4) (hr0 : 0 ≤ r) (hr1 : r ≤ 1000000000) :
    text_First.l0 (k + 1) s r n least j = if bt s j / 64 = 2 then text_First.l0 k s (r * 64 + (bt s j - 128)) n least (j + 1) else some (0, 0) := by
  have hb := bt_range s j
  simp only [text_First.l0]
  rw [if_pos hj, if_pos hj0, if_pos (by omega)]
  by_cases h : bt s j / 64 = 2
  · rw [if_pos h, if_pos h, u8_and63 _ (by omega) (by omega), w64 (n := bt s j % 64) (by omega) (by omega), w64 (n := r * 64) (by omega) (by omega), Bit.or6 (by omega) (by omega) (by omega) (by omega) (by omega), w64 (n := j + 1) (by omega) (by omega)]
    congr 1; omega
  · rw [if_neg h, if_neg h]
theorem toList_size (s : ByteArray) : s.toList.length = s.size := by rw [ByteArray.toList_eq, Array.length_toList]; rfl
theorem first_j0 (k : Nat) (s : ByteArray) (r n least : Int) (b : Bool) : text_First.j0 (k + 1) s r n least b = if b = true then some (0, 0) else text_First.l0 k s r n least 1 := by simp only [text_First.j0]
theorem first_in (k : Nat) (s : ByteArray) (r n least : Int) (h0 : 2 ≤ n) : text_First.j0 (k + 8) s r n least (decide (n > s.size)) = if n ≤ s.size then text_First.l0 (k + 7) s r n least 1 else some (0, 0) := by
  rw [first_j0]
  by_cases h : n ≤ s.size
  · rw [if_pos h, if_neg (by simp; omega)]
  · rw [if_neg h, if_pos (by simp; omega)]
theorem first_f (k : Nat) (s : ByteArray) (hs : 0 < s.size) : text_First.f (k + 8) s = some (dec s 0) := by
  have hb := bt_range s 0
  have hb1 := bt_range s 1
  have hb2 := bt_range s 2
  have hb3 := bt_range s 3
  unfold text_First.f text_row.f dec
  simp only [Int.zero_add]
  rw [if_neg (by intro h; have := toList_size s; rw [h] at this; simp at this; omega), if_pos (by omega)]
  by_cases h1 : bt s 0 < 128
  · rw [if_pos (by omega), if_pos h1]
    simp only [Option.bind_some]
    rw [if_neg (show ¬ (1 : Int) = 0 by decide), first_j0, if_neg (by simp; omega), first_tail _ s _ _ _ _ (by omega), w64 (by omega) (by omega)]
    unfold chk
    rw [if_neg (by omega), if_pos (by rw [charB_spec]; omega)]
  · rw [if_neg (by omega), if_neg h1]
    by_cases h2 : bt s 0 / 32 = 6
    · rw [if_pos h2, if_pos (by omega)]
      simp only [Option.bind_some]
      rw [if_neg (by decide), first_in _ _ _ _ _ (by omega), u8_and31 _ (by omega) (by omega), w64 (n := bt s 0 % 32) (by omega) (by omega)]
      by_cases h3 : (2 : Int) ≤ s.size
      · rw [if_pos h3, first_step _ s _ 2 _ 1 (by omega) (by omega) h3 (by omega) (by omega) (by omega)]
        by_cases h4 : bt s 1 / 64 = 2
        · rw [if_pos h4, if_pos ⟨h3, h4⟩, first_tail _ s _ _ _ _ (by omega)]; congr 2; omega
        · rw [if_neg h4, if_neg (fun h => h4 h.2)]
      · rw [if_neg h3, if_neg (fun h => h3 h.1)]
    · rw [if_neg h2, if_neg (show ¬ (192 ≤ bt s 0 ∧ bt s 0 < 224) by omega)]
      by_cases h3 : bt s 0 / 16 = 14
      · rw [if_pos h3, if_pos (by omega)]
        simp only [Option.bind_some]
        rw [if_neg (by decide), first_in _ _ _ _ _ (by omega), u8_and15 _ (by omega) (by omega), w64 (n := bt s 0 % 16) (by omega) (by omega)]
        by_cases h4 : (3 : Int) ≤ s.size
        · rw [if_pos h4, first_step _ s _ 3 _ 1 (by omega) (by omega) h4 (by omega) (by omega) (by omega)]
          by_cases h5 : bt s 1 / 64 = 2
          · rw [if_pos h5, show (1 : Int) + 1 = 2 from rfl, first_step _ s _ 3 _ 2 (by omega) (by omega) h4 (by omega) (by omega) (by omega)]
            by_cases h6 : bt s 2 / 64 = 2
            · rw [if_pos h6, if_pos ⟨h4, h5, h6⟩, first_tail _ s _ _ _ _ (by omega)]; congr 2; omega
            · rw [if_neg h6, if_neg (fun h => h6 h.2.2)]
          · rw [if_neg h5, if_neg (fun h => h5 h.2.1)]
        · rw [if_neg h4, if_neg (fun h => h4 h.1)]
      · rw [if_neg h3, if_neg (show ¬ (224 ≤ bt s 0 ∧ bt s 0 < 240) by omega)]
        by_cases h4 : bt s 0 / 8 = 30
        · rw [if_pos h4, if_pos (by omega)]
          simp only [Option.bind_some]
          rw [if_neg (by decide), first_in _ _ _ _ _ (by omega), u8_and7 _ (by omega) (by omega), w64 (n := bt s 0 % 8) (by omega) (by omega)]
          by_cases h5 : (4 : Int) ≤ s.size
          · rw [if_pos h5, first_step _ s _ 4 _ 1 (by omega) (by omega) h5 (by omega) (by omega) (by omega)]
            by_cases h6 : bt s 1 / 64 = 2
            · rw [if_pos h6, show (1 : Int) + 1 = 2 from rfl, first_step _ s _ 4 _ 2 (by omega) (by omega) h5 (by omega) (by omega) (by omega)]
              by_cases h7 : bt s 2 / 64 = 2
              · rw [if_pos h7, show (2 : Int) + 1 = 3 from rfl, first_step _ s _ 4 _ 3 (by omega) (by omega) h5 (by omega) (by omega) (by omega)]
                by_cases h8 : bt s 3 / 64 = 2
                · rw [if_pos h8, if_pos ⟨h5, h6, h7, h8⟩, first_tail _ s _ _ _ _ (by omega)]; congr 2; omega
                · rw [if_neg h8, if_neg (fun h => h8 h.2.2.2)]
              · rw [if_neg h7, if_neg (fun h => h7 h.2.2.1)]
            · rw [if_neg h6, if_neg (fun h => h6 h.2.1)]
          · rw [if_neg h5, if_neg (fun h => h5 h.1)]
        · rw [if_neg h4, if_neg (show ¬ (240 ≤ bt s 0 ∧ bt s 0 < 248) by omega)]
          simp only [Option.bind_some]
          simp only [if_true]
          rw [first_j0, if_pos rfl]

/-! ### dec, of a text's end -/
theorem bt_extract (s : ByteArray) (i : Nat) (j : Int) (hi : i ≤ s.size) (hj : 0 ≤ j) : bt (s.extract i s.size) j = bt s (i + j) := by
  obtain ⟨n, rfl⟩ := Int.eq_ofNat_of_zero_le hj
  have hz : (s.extract i s.size).size = s.size - i := by simp
  unfold bt
  have e : ((i : Int) + (n : Int)).toNat = i + n := by omega
  rw [e]
  by_cases h : n < s.size - i
  · rw [dif_pos (by rw [hz]; simpa using h), dif_pos (by omega)]
    congr 2
    simp [ByteArray.getElem_extract]
  · rw [dif_neg (by rw [hz]; simpa using h), dif_neg (by omega)]
theorem dec_extract (s : ByteArray) (i : Nat) (hi : i ≤ s.size) : dec (s.extract i s.size) 0 = dec s i := by
  have hz : ((s.extract i s.size).size : Int) = s.size - i := by simp; omega
  unfold dec
  rw [hz, bt_extract s i 0 hi (by omega), bt_extract s i (0 + 1) hi (by omega), bt_extract s i (0 + 2) hi (by omega), bt_extract s i (0 + 3) hi (by omega)]
  simp only [Int.zero_add, Int.add_zero]
  have e1 : ((2 : Int) ≤ (s.size : Int) - (i : Int)) = ((i : Int) + 2 ≤ s.size) := by simp only [eq_iff_iff]; omega
  have e2 : ((3 : Int) ≤ (s.size : Int) - (i : Int)) = ((i : Int) + 3 ≤ s.size) := by simp only [eq_iff_iff]; omega
  have e3 : ((4 : Int) ≤ (s.size : Int) - (i : Int)) = ((i : Int) + 4 ≤ s.size) := by simp only [eq_iff_iff]; omega
  simp only [e1, e2, e3]
/-- First, at any byte of a text. -/
theorem first_at (k : Nat) (s : ByteArray) (i : Nat) (hi : i < s.size) : text_First.f (k + 8) (s.extract i s.size) = some (dec s i) := by
  rw [first_f k _ (by simp; omega), dec_extract s i (by omega)]
end Go.Proofs.YtgdfgahpjebcaaaGreatDoor
/-
  Texts as rows of characters: what dec reads is what encI writes; a scan of a text.
-/
namespace Go.Proofs.YtgdfgahpjebcaaaGreatDoor
open Go.RowKit Go.Proofs.YtgdfgahpjebcaaaGreatDoorW.PrintWords Go.Proofs.YtgdfgahpjebcaaaGreatDoor.PT

theorem drop_step (s : ByteArray) (i : Nat) (h : i < s.size) : (bytesOf s).drop i = bt s i :: (bytesOf s).drop (i + 1) := by
  have hl : i < (bytesOf s).length := by rw [bytesOf_length]; exact h
  rw [List.drop_eq_getElem_cons hl]
  congr 1
  rw [← rd_bytesOf]
  simp [rd, List.getD_eq_getElem?_getD, List.getElem?_eq_getElem hl]
theorem bt_drop (s : ByteArray) (i j : Nat) : bt s ((i : Int) + (j : Int)) = ((bytesOf s).drop i).getD j 0 := by
  rw [← rd_bytesOf]
  have e : ((i : Int) + (j : Int)).toNat = i + j := by omega
  simp [rd, e, List.getD_eq_getElem?_getD]

theorem chk_ok {c : Int} (n least : Int) (hl : least ≤ c) (hc : charB c = true) : chk c n least = (c, n) := by
  unfold chk; rw [if_neg (by omega), if_pos hc]

/-- dec reads what encI writes. -/
theorem dec_enc (s : ByteArray) (i : Nat) (c : Int) (rest : List Int) (hc : charB c = true) (h : (bytesOf s).drop i = encI c ++ rest) : dec s i = (c, ((encI c).length : Int)) := by
  have hin := (charB_spec c).1 hc
  have hsz : s.size - i = (encI c).length + rest.length := by
    have := congrArg List.length h
    rw [List.length_drop, bytesOf_length, List.length_append] at this
    exact this
  have b0 := bt_drop s i 0
  have b1 := bt_drop s i 1
  have b2 := bt_drop s i 2
  have b3 := bt_drop s i 3
  rw [h] at b0 b1 b2 b3
  rw [show ((0 : Nat) : Int) = 0 from rfl, Int.add_zero] at b0
  rw [show ((1 : Nat) : Int) = 1 from rfl] at b1
  rw [show ((2 : Nat) : Int) = 2 from rfl] at b2
  rw [show ((3 : Nat) : Int) = 3 from rfl] at b3
  unfold dec
  by_cases h1 : c < 128
  · have e : encI c = [c] := by unfold encI; rw [if_pos h1]
    rw [e] at b0 ⊢
    simp at b0
    rw [b0, if_pos h1]; rfl
  · by_cases h2 : c < 2048
    · have e : encI c = [192 + c / 64, 128 + c % 64] := by unfold encI; rw [if_neg h1, if_pos h2]
      rw [e] at b0 b1 hsz ⊢
      simp at b0 b1 hsz
      rw [b0, b1, if_neg (by omega), if_pos (by omega), if_pos (by omega), show (192 + c / 64 - 192) * 64 + (128 + c % 64 - 128) = c by omega, chk_ok _ _ (by omega) hc]; rfl
    · by_cases h3 : c < 65536
      · have e : encI c = [224 + c / 4096, 128 + c / 64 % 64, 128 + c % 64] := by unfold encI; rw [if_neg h1, if_neg h2, if_pos h3]
        rw [e] at b0 b1 b2 hsz ⊢
        simp at b0 b1 b2 hsz
        rw [b0, b1, b2, if_neg (by omega), if_neg (by omega), if_pos (by omega), if_pos (by omega), show ((224 + c / 4096 - 224) * 64 + (128 + c / 64 % 64 - 128)) * 64 + (128 + c % 64 - 128) = c by omega, chk_ok _ _ (by omega) hc]; rfl
      · have e : encI c = [240 + c / 262144, 128 + c / 4096 % 64, 128 + c / 64 % 64, 128 + c % 64] := by unfold encI; rw [if_neg h1, if_neg h2, if_neg h3]
        rw [e] at b0 b1 b2 b3 hsz ⊢
        simp at b0 b1 b2 b3 hsz
        rw [b0, b1, b2, b3, if_neg (by omega), if_neg (by omega), if_neg (by omega), if_pos (by omega), if_pos (by omega), show (((240 + c / 262144 - 240) * 64 + (128 + c / 4096 % 64 - 128)) * 64 + (128 + c / 64 % 64 - 128)) * 64 + (128 + c % 64 - 128) = c by omega, chk_ok _ _ (by omega) hc]; rfl

theorem chk_some {x n least c m : Int} (h : chk x n least = (c, m)) (hm : m ≠ 0) : c = x ∧ m = n ∧ least ≤ x ∧ charB x = true := by
  unfold chk at h
  by_cases h1 : x < least
  · rw [if_pos h1] at h; injection h with a b; omega
  · rw [if_neg h1] at h
    by_cases h2 : charB x = true
    · rw [if_pos h2] at h; injection h with a b; exact ⟨a.symm, b.symm, by omega, h2⟩
    · rw [if_neg h2] at h; injection h with a b; omega

/-- What dec reads stands there. -/
theorem dec_ok (s : ByteArray) (i : Nat) (c n : Int) (hi : i < s.size) (h : dec s i = (c, n)) (hn : n ≠ 0) :
    charB c = true ∧ n = (encI c).length ∧ (bytesOf s).drop i = encI c ++ (bytesOf s).drop (i + (encI c).length) := by
  have b0 := bt_range s i
  have b1 := bt_range s (i + 1)
  have b2 := bt_range s (i + 2)
  have b3 := bt_range s (i + 3)
  have d0 := drop_step s i hi
  unfold dec at h
  by_cases h1 : bt s i < 128
  · rw [if_pos h1] at h
    injection h with a b
    have e : encI c = [c] := by unfold encI; rw [if_pos (by omega)]
    rw [e, d0, a]
    exact ⟨by rw [charB_spec]; omega, by simp; omega, rfl⟩
  · rw [if_neg h1] at h
    by_cases h2 : 192 ≤ bt s i ∧ bt s i < 224
    · rw [if_pos h2] at h
      by_cases h3 : (i : Int) + 2 ≤ s.size ∧ bt s (i + 1) / 64 = 2
      · rw [if_pos h3] at h
        obtain ⟨a, b, hl, hcb⟩ := chk_some h hn
        have d1 := drop_step s (i + 1) (by omega)
        rw [Int.natCast_add, show ((1 : Nat) : Int) = 1 from rfl] at d1
        have e : encI c = [bt s i, bt s (i + 1)] := by
          unfold encI
          rw [if_neg (by omega), if_pos (by omega)]
          congr 1
          · omega
          · congr 1; omega
        rw [e, d0, d1]
        exact ⟨by rw [a]; exact hcb, by simp; omega, rfl⟩
      · rw [if_neg h3] at h; injection h with a b; omega
    · rw [if_neg h2] at h
      by_cases h4 : 224 ≤ bt s i ∧ bt s i < 240
      · rw [if_pos h4] at h
        by_cases h3 : (i : Int) + 3 ≤ s.size ∧ bt s (i + 1) / 64 = 2 ∧ bt s (i + 2) / 64 = 2
        · rw [if_pos h3] at h
          obtain ⟨a, b, hl, hcb⟩ := chk_some h hn
          have d1 := drop_step s (i + 1) (by omega)
          rw [Int.natCast_add, show ((1 : Nat) : Int) = 1 from rfl] at d1
          have d2 := drop_step s (i + 1 + 1) (by omega)
          rw [show ((i + 1 + 1 : Nat) : Int) = (i : Int) + 2 by omega] at d2
          have e : encI c = [bt s i, bt s (i + 1), bt s (i + 2)] := by
            unfold encI
            rw [if_neg (by omega), if_neg (by omega), if_pos (by omega)]
            congr 1
            · omega
            · congr 1
              · omega
              · congr 1; omega
          rw [e, d0, d1, d2]
          exact ⟨by rw [a]; exact hcb, by simp; omega, rfl⟩
        · rw [if_neg h3] at h; injection h with a b; omega
      · rw [if_neg h4] at h
        by_cases h5 : 240 ≤ bt s i ∧ bt s i < 248
        · rw [if_pos h5] at h
          by_cases h3 : (i : Int) + 4 ≤ s.size ∧ bt s (i + 1) / 64 = 2 ∧ bt s (i + 2) / 64 = 2 ∧ bt s (i + 3) / 64 = 2
          · rw [if_pos h3] at h
            obtain ⟨a, b, hl, hcb⟩ := chk_some h hn
            have d1 := drop_step s (i + 1) (by omega)
            rw [Int.natCast_add, show ((1 : Nat) : Int) = 1 from rfl] at d1
            have d2 := drop_step s (i + 1 + 1) (by omega)
            rw [show ((i + 1 + 1 : Nat) : Int) = (i : Int) + 2 by omega] at d2
            have d3 := drop_step s (i + 1 + 1 + 1) (by omega)
            rw [show ((i + 1 + 1 + 1 : Nat) : Int) = (i : Int) + 3 by omega] at d3
            have e : encI c = [bt s i, bt s (i + 1), bt s (i + 2), bt s (i + 3)] := by
              unfold encI
              rw [if_neg (by omega), if_neg (by omega), if_neg (by omega)]
              congr 1
              · omega
              · congr 1
                · omega
                · congr 1
                  · omega
                  · congr 1; omega
            rw [e, d0, d1, d2, d3]
            exact ⟨by rw [a]; exact hcb, by simp; omega, rfl⟩
          · rw [if_neg h3] at h; injection h with a b; omega
        · rw [if_neg h5] at h; injection h with a b; omega

/-- A text, scanned from a byte on: its characters, and the place at which none stands. -/
inductive Scan (s : ByteArray) : Nat → List Int → Option Nat → Prop
  | done : Scan s s.size [] none
  | bad {i : Nat} (hi : i < s.size) (h : (dec s i).2 = 0) : Scan s i [] (some i)
  | step {i : Nat} {c : Int} {l : List Int} {e : Option Nat} (hi : i < s.size) (h : dec s i = (c, ((encI c).length : Int))) (k : Scan s (i + (encI c).length) l e) : Scan s i (c :: l) e

theorem dec_cases (s : ByteArray) (i : Nat) (hi : i < s.size) : (dec s i).2 = 0 ∨ ∃ c, dec s i = (c, ((encI c).length : Int)) ∧ charB c = true ∧ (bytesOf s).drop i = encI c ++ (bytesOf s).drop (i + (encI c).length) ∧ i + (encI c).length ≤ s.size := by
  obtain ⟨c, n, h⟩ : ∃ c n, dec s i = (c, n) := ⟨_, _, rfl⟩
  by_cases hn : n = 0
  · left; rw [h]; exact hn
  · right
    obtain ⟨h1, h2, h3⟩ := dec_ok s i c n hi h hn
    refine ⟨c, by rw [h, h2], h1, h3, ?_⟩
    have := congrArg List.length h3
    rw [List.length_drop, bytesOf_length, List.length_append, List.length_drop, bytesOf_length] at this
    have := encI_length c
    omega
theorem scan_exists (s : ByteArray) (d : Nat) : ∀ i, i ≤ s.size → s.size - i = d → ∃ l e, Scan s i l e := by
  induction d using Nat.strongRecOn with
  | ind d ih =>
    intro i hi hd
    by_cases h : i = s.size
    · subst h; exact ⟨_, _, .done⟩
    · rcases dec_cases s i (by omega) with h1 | ⟨c, h1, h2, h3, h4⟩
      · exact ⟨_, _, .bad (by omega) h1⟩
      · have := encI_length c
        obtain ⟨l, e, k⟩ := ih (s.size - (i + (encI c).length)) (by omega) (i + (encI c).length) h4 rfl
        exact ⟨_, _, .step (by omega) h1 k⟩
theorem Scan.le {s : ByteArray} {i : Nat} {l : List Int} {e : Option Nat} (h : Scan s i l e) : i ≤ s.size := by
  cases h <;> omega
/-- What a scan says. -/
theorem Scan.says {s : ByteArray} {i : Nat} {l : List Int} {e : Option Nat} (h : Scan s i l e) :
    l.all charB = true ∧ (e = none → (bytesOf s).drop i = encs l) ∧
      (∀ a, e = some a → a = i + (encs l).length ∧ a < s.size ∧ (dec s a).2 = 0 ∧ (bytesOf s).drop i = encs l ++ (bytesOf s).drop a) := by
  induction h with
  | done => exact ⟨rfl, fun _ => by rw [List.drop_eq_nil_of_le (by rw [bytesOf_length]; exact Nat.le_refl _)]; rfl, fun a h => by cases h⟩
  | bad hi h => exact ⟨rfl, fun h => (by cases h), fun a ha => by cases ha; exact ⟨rfl, hi, h, rfl⟩⟩
  | @step i c l e hi h k ih =>
    obtain ⟨i1, i2, i3⟩ := ih
    have hn : (((encI c).length : Nat) : Int) ≠ 0 := by have := encI_length c; omega
    obtain ⟨h1, h2, h3⟩ := dec_ok s i c _ hi h hn
    refine ⟨by simp only [List.all_cons, h1, i1, Bool.and_self], fun he => by rw [h3, i2 he, encs_cons], fun a ha => ?_⟩
    obtain ⟨j1, j2, j3, j4⟩ := i3 a ha
    exact ⟨by rw [encs_cons, List.length_append]; omega, j2, j3, by rw [h3, j4, encs_cons, List.append_assoc]⟩
/-- A scan of what is written, and on. -/
theorem Scan.glue {s : ByteArray} {l2 : List Int} {e : Option Nat} : ∀ (l : List Int) (i : Nat), l.all charB = true → (∃ rest, (bytesOf s).drop i = encs l ++ rest) → Scan s (i + (encs l).length) l2 e → Scan s i (l ++ l2) e
  | [], i, _, _, h => by simpa [encs_nil] using h
  | c :: l, i, hc, ⟨rest, hr⟩, h => by
    simp only [List.all_cons, Bool.and_eq_true] at hc
    rw [encs_cons, List.append_assoc] at hr
    have hd := dec_enc s i c _ hc.1 hr
    have hlen := encI_length c
    have hi : i < s.size := by
      have := congrArg List.length hr
      rw [List.length_drop, bytesOf_length, List.length_append] at this
      omega
    have hdrop : (bytesOf s).drop (i + (encI c).length) = encs l ++ rest := by
      rw [← List.drop_drop, hr, List.drop_left]
    refine .step hi hd (Scan.glue l (i + (encI c).length) hc.2 ⟨rest, hdrop⟩ ?_)
    rw [encs_cons, List.length_append] at h
    rw [Nat.add_assoc]; exact h
theorem Scan.unique {s : ByteArray} {i : Nat} {l : List Int} {e : Option Nat} (h : Scan s i l e) : ∀ {l' e'}, Scan s i l' e' → l = l' ∧ e = e' := by
  induction h with
  | done =>
    intro l' e' h'
    cases h' with
    | done => exact ⟨rfl, rfl⟩
    | bad hi h => omega
    | step hi h k => omega
  | bad hi h =>
    intro l' e' h'
    cases h' with
    | done => omega
    | bad hi h => exact ⟨rfl, rfl⟩
    | @step _ c _ _ hi h2 k => have h' : ((encI c).length : Int) = 0 := (by rw [h2] at h; exact h); have := encI_length c; omega
  | @step i c l e hi h k ih =>
    intro l' e' h'
    cases h' with
    | done => omega
    | bad hi h2 => have h' : ((encI c).length : Int) = 0 := (by rw [h] at h2; exact h2); have := encI_length c; omega
    | @step _ c2 _ _ hi h2 k2 =>
      rw [h] at h2
      injection h2 with a b
      subst a
      obtain ⟨r1, r2⟩ := ih k2
      exact ⟨by rw [r1], r2⟩

/-! ### The printed functions, by a scan -/
/-- The place at which no character stands, as text.Bad tells it. -/
def badI : Option Nat → Int
  | none => -1
  | some a => a
theorem bad_l0 {s : ByteArray} (hsz : s.size ≤ 140737488355328) {i : Nat} {l : List Int} {e : Option Nat} (h : Scan s i l e) : ∀ K, s.size - i + 9 ≤ K → text_Bad.l0 K s i = some (badI e) := by
  induction h with
  | done =>
    intro K hK
    obtain ⟨K, rfl⟩ : ∃ m, K = m + 1 := ⟨K - 1, by omega⟩
    rw [text_Bad.l0, if_neg (by omega)]; rfl
  | @bad i hi h =>
    intro K hK
    obtain ⟨K, rfl⟩ : ∃ m, K = m + 8 + 1 := ⟨K - 9, by omega⟩
    rw [text_Bad.l0, if_pos (by omega), if_pos (by omega), if_pos (by omega), Int.toNat_natCast, first_at K s i hi]
    simp only [Option.bind_some]
    rw [if_pos h]; rfl
  | @step i c l e hi h k ih =>
    intro K hK
    have := encI_length c
    have hle := k.le
    obtain ⟨K, rfl⟩ : ∃ m, K = m + 8 + 1 := ⟨K - 9, by omega⟩
    rw [text_Bad.l0, if_pos (by omega), if_pos (by omega), if_pos (by omega), Int.toNat_natCast, first_at K s i hi, h]
    simp only [Option.bind_some]
    rw [if_neg (by omega), w64 (by omega) (by omega), ← Int.natCast_add]
    exact ih _ (by omega)
theorem bad_f {s : ByteArray} (hsz : s.size ≤ 140737488355328) {l : List Int} {e : Option Nat} (h : Scan s 0 l e) : text_Bad.f (s.size + 9) s = some (badI e) := bad_l0 hsz h _ (by omega)
/-- What the reference's Runes comes to. -/
def runesS (l : List Int) : Option Nat → List Int × Int × Int
  | none => (l, 0, 0)
  | some a => ([], a, 10)
theorem runes_l0 {s : ByteArray} (hsz : s.size ≤ 17592186000000) {i : Nat} {l : List Int} {e : Option Nat} (h : Scan s i l e) : ∀ K acc, s.size - i + 10 ≤ K → acc.length ≤ i → emendref1_Runes.l0 K s acc i = some (match e with | none => (acc ++ l, 0, 0) | some a => ([], (a : Int), 10)) := by
  induction h with
  | done =>
    intro K acc hK ha
    obtain ⟨K, rfl⟩ : ∃ m, K = m + 1 := ⟨K - 1, by omega⟩
    rw [emendref1_Runes.l0, if_neg (by omega), List.append_nil]
  | @bad i hi h =>
    intro K acc hK ha
    obtain ⟨K, rfl⟩ : ∃ m, K = m + 9 + 1 := ⟨K - 10, by omega⟩
    rw [emendref1_Runes.l0, if_pos (by omega), one_f K s i (by omega) (by omega) (by omega)]
    simp only [Option.bind_some]
    rw [if_pos h]
  | @step i c l e hi h k ih =>
    intro K acc hK ha
    have := encI_length c
    have hle := k.le
    obtain ⟨K, rfl⟩ : ∃ m, K = m + 9 + 1 := ⟨K - 10, by omega⟩
    rw [emendref1_Runes.l0, if_pos (by omega), one_f K s i (by omega) (by omega) (by omega), h]
    simp only [Option.bind_some]
    rw [if_neg (by omega), if_pos (by omega), w64 (by omega) (by omega), ← Int.natCast_add, ih _ _ (by omega) (by simp; omega)]
    cases e <;> simp
theorem runes_f {s : ByteArray} (hsz : s.size ≤ 17592186000000) {l : List Int} {e : Option Nat} (h : Scan s 0 l e) : emendref1_Runes.f (s.size + 10) s = some (runesS l e) := by
  unfold emendref1_Runes.f
  rw [show (0 : Int) = ((0 : Nat) : Int) from rfl, runes_l0 hsz h _ [] (by omega) (by simp)]
  cases e <;> rfl
end Go.Proofs.YtgdfgahpjebcaaaGreatDoor
/-
  text.Runes, walked.
-/
namespace Go.Proofs.YtgdfgahpjebcaaaGreatDoor
open Go.RowKit Go.Proofs.YtgdfgahpjebcaaaGreatDoorW.PrintWords Go.Proofs.YtgdfgahpjebcaaaGreatDoor.PT

/-- text.Wrong: a Refusal in new memory. -/
theorem wrong_any (at_ why : Int) (w : World) :
    Calls Tryz.prog 21 #[.int .i64 at_, .int .i64 why] w fun e w' => e = .returned (.pointer (some ⟨w.heap.size, 0, none⟩)) ∧ w' = w.alloc (.cells #[.int .i64 at_, .int .i64 why] 81) := by
  go_enter Tryz.func21, Tryz.ntmps21
  go_wp2
  go_ret
  exact ⟨rfl, rfl⟩
theorem isRef_new (at_ why : Int) (w : World) : IsRef (w.alloc (.cells #[.int .i64 at_, .int .i64 why] 81)) w.heap.size at_ why := heap_alloc_new w _

/-- A list of ints in memory of its own, its capacity its length. -/
def CutRow (w : World) (B : Nat) (v : Value) (l : List Int) : Prop :=
  (l = [] ∧ v = .slice none 0 0) ∨ ∃ g cur, v = .slice (some ⟨g, 0, none⟩) l.length l.length ∧ B ≤ g ∧ w.heap[g]? = some (.cells cur 3 (0, 0)) ∧ l.length ≤ cur.size ∧ cur.toList.take l.length = nums .i64 l

theorem infoInt : (Tryz.prog.info? 3).map (fun i => (i.zero, i.size, i.bytes)) = some (some (.int .i64 0), 1, 8) := by kernel_rfl

set_option maxHeartbeats 2000000 in
set_option maxRecDepth 100000 in
/-- text.Runes of a text that is none. -/
theorem runes_bad (s : ByteArray) (a : Nat) (l : List Int) (w : World) (hs : s.size ≤ 140737488355328) (h : Scan s 0 l (some a)) :
    Calls Tryz.prog 25 #[.string s] w fun e w' => ∃ g, e = .returned (.tuple #[.slice none 0 0, .iface 55 (.pointer (some ⟨g, 0, none⟩))]) ∧ IsRef w' g a 10 ∧ w.heap.size ≤ g ∧ Below w.heap.size w w' := by
  have hb : text_Bad.f (s.size + 9) s = some (a : Int) := bad_f hs h
  have HBD := Aside0.mk hb
  clear hb
  have h0 : (0 : Int) ≤ (a : Int) := by omega
  go_enter Tryz.func25, Tryz.ntmps25
  go_wp2_with (first
    | (go_at_call 20; (with_reducible refine (text_Bad.calls (s.size + 9) s (a : Int) _ HBD.out).mono ?_); rintro e w1 ⟨rfl, ⟨nd, rfl⟩⟩)
    | (go_at_call 21; refine (wrong_any (a : Int) 10 _).mono ?_; rintro e w1 ⟨rfl, rfl⟩))
  go_ret2
  exact ⟨_, rfl, isRef_new _ _ (w.drewN nd), Nat.le_refl _, bl_alloc (bl_drewN (Below.refl _ _) _) _⟩

set_option maxHeartbeats 2000000 in
set_option maxRecDepth 100000 in
/-- text.Runes of a text. -/
theorem runes_ok (s : ByteArray) (l : List Int) (w : World) (hs : s.size ≤ 17592186000000) (h : Scan s 0 l none) :
    Calls Tryz.prog 25 #[.string s] w fun e w' => ∃ v, e = .returned (.tuple #[v, .nilIface]) ∧ CutRow w' w.heap.size v l ∧ Below w.heap.size w w' := by
  have hb : text_Bad.f (s.size + 9) s = some (-1) := bad_f (by omega) h
  have HBD := Aside0.mk hb
  clear hb
  go_enter Tryz.func25, Tryz.ntmps25
  go_wp2_with (first
    | (go_at_call 20; (with_reducible refine (text_Bad.calls (s.size + 9) s (-1) _ HBD.out).mono ?_); rintro e w1 ⟨rfl, ⟨nd, rfl⟩⟩))
  go_loopg [5, 6] s.size (fun kq v5 v6 w' => ∃ (i : Nat) (dn rs : List Int), v6 = .int .i64 i ∧ Aside0 (kq = s.size - i ∧ dn.length ≤ i ∧ Scan s i rs none ∧ l = dn ++ rs) ∧ Aside0 (w'.ownsRow w.heap.size 3 1 v5 dn.length (nums .i64 dn)) ∧ Aside0 (Below w.heap.size w w'))
  case atStart => exact ⟨0, [], l, rfl, ⟨rfl, Nat.le_refl _, h, rfl⟩, ⟨own_nil _ w.heap.size 3 1⟩, ⟨bl_drewN (Below.refl _ _) _⟩⟩
  case round =>
    obtain ⟨i, dn, rs, rfl, HI, HO, HB⟩ := hrel
    obtain ⟨hk, hdn, hsc, hl⟩ := HI.out
    have hle := hsc.le
    have hsz := HB.out.size
    by_cases hlt : i < s.size
    · cases hsc with
      | done => omega
      | @step _ c l2 _ hi hd k =>
        have hf := first_at 0 s i hi
        rw [hd] at hf
        have HF := Aside0.mk hf
        have HD := Aside0.mk hk
        have HL := Aside0.mk hl
        have HK := Aside0.mk k
        have hen := encI_length c
        have hle2 := k.le
        clear hf hk hl k hd HI
        have p1 : (0 : Int) ≤ (i : Int) := by omega
        have q1 : ((i : Int) < (s.size : Int)) = True := eq_true (by omega)
        have q2 : (i : Int) ≤ (s.size : Int) := by omega
        go_wp2_with (first
          | (go_at_call 37; (with_reducible refine (text_First.calls 8 (s.extract i s.size) c ((encI c).length : Int) _ HF.out).mono ?_); rintro e w1 ⟨rfl, ⟨nd, rfl⟩⟩)
          | (at_builtin; refine app_num (w0 := w) w.heap.size rfl _ _ 51 3 .i64 8 _ rfl rfl Tryz.underlying51 infoInt (by decide) _ dn c rfl rfl (by exact HO.out) (bl_drewN HB.out _) (by exact hsz) (by omega) ?_; intro v1 w2 ho2 hb2 hg2 hat2))
        go_roundg (s.size - (i + (encI c).length))
        case measure => have := HD.out; omega
        case rel => exact ⟨i + (encI c).length, dn ++ [c], l2, by go_num, ⟨rfl, by simp; omega, HK.out, by rw [HL.out]; simp⟩, ⟨ho2⟩, ⟨hb2⟩⟩
    · have hi : i = s.size := by omega
      subst hi
      have hrs : rs = [] := (hsc.unique .done).1
      have hdl : l = dn := by rw [hl, hrs, List.append_nil]
      have HDL := Aside0.mk hdl
      clear hdl hrs hl hk hdn HI hsc
      have q1 : ((s.size : Int) < (s.size : Int)) = False := eq_false (by omega)
      rcases HO.out.2 with ⟨rfl, hn⟩ | ⟨g, cap, cur, rfl, hB, hh, hnc, hcm, hcs, htk⟩
      · have hd0 : dn = [] := List.eq_nil_of_length_eq_zero hn
        subst hd0
        clear hn
        go_wp2
        go_ret2
        exact ⟨_, rfl, .inl ⟨HDL.out, rfl⟩, HB.out⟩
      · have HT := Aside0.mk htk
        have HS := Aside0.mk hcs
        have HH := Aside0.mk hh
        clear htk hcs hh
        unfold maxLen at hcm
        have p1 : (0 : Int) ≤ (dn.length : Int) := by omega
        have p2 : (dn.length : Int) ≤ (cap : Int) := by omega
        go_wp2
        go_ret2
        refine ⟨_, rfl, .inr ⟨g, cur, ?_, hB, HH.out, by rw [HDL.out, HS.out]; omega, by rw [HDL.out]; simpa using HT.out⟩, HB.out⟩
        rw [HDL.out]
        simp
end Go.Proofs.YtgdfgahpjebcaaaGreatDoor
/-
  strings.Builder: copyCheck, WriteByte, WriteString, String, of a builder that the call itself has made. (The shelf's contracts for the first three do not fit this translation: copyCheck's panic is refused by the loader. The walks are the shelf's, turned.)
-/
namespace Go.Proofs.YtgdfgahpjebcaaaGreatDoor
open Go.RowKit Go.Proofs.YtgdfgahpjebcaaaGreatDoorW.PrintWords

theorem bldSize : (Tryz.prog.info? 43).map (·.size) = some 2 := by kernel_rfl
theorem bldLies : liesAt Tryz.prog Tryz.prog.depth 43 (2 / Tryz.prog.cellsOf 43) 0 43 1 = true := by kernel_rfl
theorem bldInfoByte : (Tryz.prog.info? 5).map (fun i => (i.zero, i.size, i.bytes)) = some (some (.int .u8 0), 1, 1) := by kernel_rfl

set_option maxHeartbeats 1000000 in
set_option maxRecDepth 100000 in
theorem bld_check_used (b : Nat) (w : World) (h0 : w.cell? ⟨b, 0, none⟩ = some (.pointer (some ⟨b, 0, none⟩))) :
    Calls Tryz.prog 35 #[.pointer (some ⟨b, 0, none⟩)] w fun e w' => e = .returned (.tuple #[]) ∧ w' = w := by
  obtain ⟨j, hj, _⟩ := Option.map_eq_some_iff.1 bldSize
  go_enter Tryz.func35, Tryz.ntmps35
  go_wp2
  rw [Lib.run_neq_ptr_same w _ Tryz.underlying40 hj]
  go_wp2
  go_end0
  exact ⟨rfl, rfl⟩

set_option maxHeartbeats 1000000 in
set_option maxRecDepth 100000 in
theorem bld_check_fresh (b : Nat) (w : World) (h0 : w.cell? ⟨b, 0, none⟩ = some (.pointer none)) (hsh : w.shape? b = some (43, 2)) (hfz : w.frozen? ⟨b, 0, none⟩ = false) :
    Calls Tryz.prog 35 #[.pointer (some ⟨b, 0, none⟩)] w fun e w' => e = .returned (.tuple #[]) ∧ w' = w.setCell ⟨b, 0, none⟩ (.pointer (some ⟨b, 0, none⟩)) := by
  obtain ⟨j, hj, hjs⟩ := Option.map_eq_some_iff.1 bldSize
  go_enter Tryz.func35, Tryz.ntmps35
  go_wp2
  rw [Lib.run_to_unsafe w ⟨b, 0, none⟩ Tryz.underlying40 Tryz.underlying90 hj (by rw [hjs]; decide) hsh (Nat.zero_lt_succ 1)]
  simp only [Result.andThen]
  rw [Oper.upon_value]
  go_wp2
  rw [run_callFunc_extern Tryz.func51 (by kernel_rfl) (by kernel_rfl) (by kernel_rfl) (e := Extern.AbiNoEscape.same) (by kernel_rfl)]
  rw [Lib.run_noEscape]
  simp only [Result.andThen]
  rw [Oper.upon_value]
  go_wp2
  rw [Lib.run_from_unsafe w ⟨b, 0, none⟩ Tryz.underlying90 Tryz.underlying40 hj hsh bldLies]
  simp only [Result.andThen]
  rw [Oper.upon_value]
  go_wp2
  go_end0
  exact ⟨rfl, rfl⟩

theorem bld_check (B b : Nat) (bs : List Value) (w : World) (h : Lib.IsBuilder 43 5 B b bs w) :
    Calls Tryz.prog 35 #[.pointer (some ⟨b, 0, none⟩)] w fun e w' => e = .returned (.tuple #[]) ∧ (Lib.BuilderAt 43 5 B b (.pointer (some ⟨b, 0, none⟩)) bs w' ∧ Below B w w') := by
  rcases h with h | h
  · refine (bld_check_fresh b w h.cell0 h.shape h.frozen0).mono ?_
    rintro e w' ⟨rfl, rfl⟩
    exact ⟨rfl, h.used _, (Below.refl B w).setCell (p := ⟨b, 0, none⟩) h.1 _⟩
  · refine (bld_check_used b w h.cell0).mono ?_
    rintro e w' ⟨rfl, rfl⟩
    exact ⟨rfl, h, Below.refl B _⟩

/-- A builder of the call's own that holds these bytes. -/
abbrev Bld (B b : Nat) (l : List Int) (w : World) : Prop := Lib.IsBuilder 43 5 B b (nums .u8 l) w

set_option maxHeartbeats 2000000 in
set_option maxRecDepth 100000 in
theorem bld_byte (B b : Nat) (l : List Int) (c : Int) (w : World) (h : Bld B b l w) (hlen : l.length + 1 ≤ 140737488355328) (hBw : B ≤ w.heap.size) :
    Calls Tryz.prog 13 #[.pointer (some ⟨b, 0, none⟩), .int .u8 c] w fun e w' => e = .returned .nilIface ∧ (Bld B b (l ++ [c]) w' ∧ Below B w w') := by
  obtain ⟨i0, hi, hz0, hz1, hz2⟩ := info_parts bldInfoByte
  have hlen' : (nums .u8 l).length + 1 ≤ 140737488355328 := by rw [nums_length]; exact hlen
  go_enter Tryz.func13, Tryz.ntmps13
  go_wp2_with (go_at_call 35; refine (bld_check B b (nums .u8 l) _ h).mono ?_)
  rintro e w1 ⟨rfl, h1, hb1⟩
  obtain ⟨hB, v, hbk, hown, hne⟩ := h1
  have c0 : w1.cell? ⟨b, 0, none⟩ = some (.pointer (some ⟨b, 0, none⟩)) := by rw [Lib.cell_of_heap hbk]; rfl
  have c1 : w1.cell? ⟨b, 1, none⟩ = some v := by rw [Lib.cell_of_heap hbk]; rfl
  go_wp2_with (at_builtin; refine wpList_append_own _ rfl _ _ 41 rfl B 5 i0 (.int .u8 0) 1 1 Tryz.underlying41 hi hz0 hz1 hz2 rfl (by decide) _ _ _ rfl (hown.alloc _) ⟨w1.heap.size, 0, none⟩ 1 1 [.int .u8 c] rfl rfl ?c1 ?c2 ?c3 ?c4 ?c5 ?_)
  case c1 =>
    intro j u hj
    match j, hj with
    | 0, hj => simp at hj; subst hj; simp [Addr.add]
  case c2 => intro u hu; simp at hu; subst hu; rfl
  case c3 => unfold maxLen; omega
  case c4 => omega
  case c5 => have := hb1.size; simp; omega
  intro v' w2 hown' hgrow _
  have hlt : b < w1.heap.size := by
    rcases Nat.lt_or_ge b w1.heap.size with h' | h'
    · exact h'
    · simp [Array.getElem?_eq_none h'] at hbk
  have hb2 : w2.heap[b]? = some (.cells #[.pointer (some ⟨b, 0, none⟩), v] 43 (0, 0)) := by
    rw [hgrow.block b (by simp; omega) (fun e => hne e.symm), Lib.alloc_old w1 _ b hlt]
    exact hbk
  have d0 : w2.cell? ⟨b, 0, none⟩ = some (.pointer (some ⟨b, 0, none⟩)) := by rw [Lib.cell_of_heap hb2]; rfl
  have d1 : w2.cell? ⟨b, 1, none⟩ = some v := by rw [Lib.cell_of_heap hb2]; rfl
  have f1 : w2.frozen? ⟨b, 1, none⟩ = false := Lib.frozen_of_heap hb2 1
  obtain ⟨g, cap, rfl⟩ : ∃ g cap, v' = .slice (some ⟨g, 0, none⟩) ((nums .u8 l).length + 1) cap := by
    rcases hown'.2 with ⟨_, h0⟩ | ⟨g, cap, cur, hv, _⟩
    · omega
    · exact ⟨g, cap, hv⟩
  go_wp2
  go_ret
  refine ⟨rfl, .inr ?_, ?_⟩
  · exact Lib.BuilderAt.put (T := 43) (e := 5) hB hb2 (bs' := nums .u8 (l ++ [c])) (by rw [nums_append]; simpa [nums] using hown') (by decide)
  · exact ((hb1.alloc (by have := hb1.size; omega) _).grown hgrow (by have := hb1.size; simp; omega) (fun k hk => (hown.lt k hk).1)).setCell (p := ⟨b, 1, none⟩) hB _

set_option maxHeartbeats 2000000 in
set_option maxRecDepth 100000 in
theorem bld_str (B b : Nat) (l : List Int) (s : ByteArray) (w : World) (h : Bld B b l w) (hlen : l.length + s.size ≤ 140737488355328) (hBw : B ≤ w.heap.size) :
    Calls Tryz.prog 15 #[.pointer (some ⟨b, 0, none⟩), .string s] w fun e w' => e = .returned (.tuple #[.int .i64 s.size, .nilIface]) ∧ (Bld B b (l ++ bytesOf s) w' ∧ Below B w w') := by
  obtain ⟨i0, hi, hz0, hz1, hz2⟩ := info_parts bldInfoByte
  have hlen' : (nums .u8 l).length + s.size ≤ 140737488355328 := by rw [nums_length]; exact hlen
  go_enter Tryz.func15, Tryz.ntmps15
  go_wp2_with (go_at_call 35; refine (bld_check B b (nums .u8 l) _ h).mono ?_)
  rintro e w1 ⟨rfl, h1, hb1⟩
  obtain ⟨hB, v, hbk, hown, hne⟩ := h1
  have c0 : w1.cell? ⟨b, 0, none⟩ = some (.pointer (some ⟨b, 0, none⟩)) := by rw [Lib.cell_of_heap hbk]; rfl
  have c1 : w1.cell? ⟨b, 1, none⟩ = some v := by rw [Lib.cell_of_heap hbk]; rfl
  go_wp2_with (at_builtin; refine Lib.wpList_append_own_string _ rfl _ _ 41 9 rfl B 5 i0 Tryz.underlying41 Tryz.underlying9 hi hz0 hz1 hz2 _ _ _ rfl hown s rfl ?c3 ?c4 ?c5 ?_)
  case c3 => unfold maxLen; omega
  case c4 => omega
  case c5 => have := hb1.size; omega
  intro v' w2 hown' hgrow _
  have hlt : b < w1.heap.size := by
    rcases Nat.lt_or_ge b w1.heap.size with h' | h'
    · exact h'
    · simp [Array.getElem?_eq_none h'] at hbk
  have hb2 : w2.heap[b]? = some (.cells #[.pointer (some ⟨b, 0, none⟩), v] 43 (0, 0)) := by
    rw [hgrow.block b hlt (fun e => hne e.symm)]
    exact hbk
  have d0 : w2.cell? ⟨b, 0, none⟩ = some (.pointer (some ⟨b, 0, none⟩)) := by rw [Lib.cell_of_heap hb2]; rfl
  have d1 : w2.cell? ⟨b, 1, none⟩ = some v := by rw [Lib.cell_of_heap hb2]; rfl
  have f1 : w2.frozen? ⟨b, 1, none⟩ = false := Lib.frozen_of_heap hb2 1
  obtain ⟨ao, n', cap, rfl⟩ : ∃ ao n' cap, v' = .slice ao n' cap := by
    rcases hown'.2 with ⟨hv, _⟩ | ⟨g, cap, cur, hv, _⟩
    · exact ⟨_, _, _, hv⟩
    · exact ⟨_, _, _, hv⟩
  go_wp2
  go_ret2
  have hcells : nums .u8 (l ++ bytesOf s) = nums .u8 l ++ Lib.strCells s := by
    rw [nums_append]; congr 1; simp [nums, bytesOf, Lib.strCells]
  refine ⟨rfl, .inr ?_, ?_⟩
  · refine Lib.BuilderAt.put (T := 43) (e := 5) hB hb2 (bs' := nums .u8 (l ++ bytesOf s)) ?_ (by decide)
    rw [hcells]; simpa [Lib.strCells_length] using hown'
  · exact (hb1.grown hgrow (by have := hb1.size; omega) (fun k hk => (hown.lt k hk).1)).setCell (p := ⟨b, 1, none⟩) hB _

/-- Bytes as numbers. -/
def IsBytes (l : List Int) : Prop := ∀ x ∈ l, 0 ≤ x ∧ x < 256
theorem nums_bytes (l : List Int) (h : IsBytes l) : nums .u8 l = Lib.byteCells (l.map fun n => UInt8.ofNat n.toNat) := by
  unfold nums Lib.byteCells
  rw [List.map_map]
  refine List.map_congr_left fun x hx => ?_
  have := h x hx
  simp only [Function.comp]
  congr 1
  rw [UInt8.toNat_ofNat']
  omega

theorem bld_string (B b : Nat) (l : List Int) (w : World) (h : Bld B b l w) (hl : IsBytes l) (hBw : B ≤ w.heap.size) :
    Calls Tryz.prog 17 #[.pointer (some ⟨b, 0, none⟩)] w fun e w' => e = .returned (.string (strOfNums l)) ∧ Below B w w' := by
  have h' := h
  unfold Bld at h'
  rw [nums_bytes l hl] at h'
  exact Tryz.Builder_String_any B b (l.map fun n => UInt8.ofNat n.toNat) w h' hBw

/-- A new builder. -/
theorem bld_new (w : World) : Bld w.heap.size w.heap.size [] (w.alloc (.cells #[.pointer none, .slice none 0 0] 43)) := Lib.fresh_isBuilder _ _ w
theorem bld_drew {B b : Nat} {l : List Int} {w : World} (h : Bld B b l w) : Bld B b l w.drew := h
theorem bld_drewN {B b : Nat} {l : List Int} {w : World} (h : Bld B b l w) (n : Nat) : Bld B b l (w.drewN n) := h
theorem bld_lt {B b : Nat} {l : List Int} {w : World} (h : Bld B b l w) : b < w.heap.size := by
  rcases h with h | h
  · exact h.lt
  · exact h.lt
end Go.Proofs.YtgdfgahpjebcaaaGreatDoor
/-
  Lines and columns, plainly: what SpotOf and At come to, of a text that was scanned.
-/
namespace Go.Proofs.YtgdfgahpjebcaaaGreatDoor
open Go.RowKit Go.Proofs.YtgdfgahpjebcaaaGreatDoorW.PrintWords Go.Proofs.YtgdfgahpjebcaaaGreatDoor.PT

/-- The byte of a line and a column, from a byte on. -/
def atL (line col : Int) : List Int → Int → Int → Int → Int × Int
  | [], i, l, c => if l = line ∧ c = col then (i, 0) else (0, 5)
  | x :: r, i, l, c => if l = line ∧ c = col then (i, 0) else atL line col r (i + (encI x).length) (if x = 10 then l + 1 else l) (if x = 10 then 1 else c + 1)
/-- The line and column of a byte, from a byte on. -/
def spotL (at_ : Int) : List Int → Int → Int → Int → Int × Int × Int
  | [], i, l, c => (l, c, 0)
  | x :: r, i, l, c => if i < at_ then (if i + (encI x).length > at_ then (0, 0, 10) else spotL at_ r (i + (encI x).length) (if x = 10 then l + 1 else l) (if x = 10 then 1 else c + 1)) else (l, c, 0)

theorem dec_head (s : ByteArray) (i : Nat) (x : Int) (hi : i < s.size) (h : dec s i = (x, ((encI x).length : Int))) : bt s i = (encI x).headD 0 := by
  have hn : (((encI x).length : Nat) : Int) ≠ 0 := by have := encI_length x; omega
  obtain ⟨_, _, h3⟩ := dec_ok s i x _ hi h hn
  rw [drop_step s i hi] at h3
  cases e : encI x with
  | nil => have := encI_length x; rw [e] at this; simp at this
  | cons a r => rw [e] at h3; simp at h3; simp [h3.1]
theorem dec_ten (s : ByteArray) (i : Nat) (x : Int) (hi : i < s.size) (h : dec s i = (x, ((encI x).length : Int))) : bt s i = 10 ↔ x = 10 := by
  have hh := dec_head s i x hi h
  have hn : (((encI x).length : Nat) : Int) ≠ 0 := by have := encI_length x; omega
  have hc := (dec_ok s i x _ hi h hn).1
  rw [charB_spec] at hc
  rw [hh]
  unfold encI
  by_cases h1 : x < 128
  · rw [if_pos h1]; simp
  · by_cases h2 : x < 2048
    · rw [if_neg h1, if_pos h2]; simp; omega
    · by_cases h3 : x < 65536
      · rw [if_neg h1, if_neg h2, if_pos h3]; simp; omega
      · rw [if_neg h1, if_neg h2, if_neg h3]; simp; omega
end Go.Proofs.YtgdfgahpjebcaaaGreatDoor
/-
  text.At, walked.
-/
namespace Go.Proofs.YtgdfgahpjebcaaaGreatDoor
open Go.RowKit Go.Proofs.YtgdfgahpjebcaaaGreatDoorW.PrintWords Go.Proofs.YtgdfgahpjebcaaaGreatDoor.PT

theorem eqSpot (d : Nat) (w : World) (x0 y0 : Int) (x1 y1 : Int) :
    (Op.equalIn (d + 2) 67 (.agg #[.int .i64 x0, .int .i64 x1]) (.agg #[.int .i64 y0, .int .i64 y1])).run Tryz.prog w = .ok (x0 == y0 && (x1 == y1)) w := by
  refine eqA_of Tryz.underlying67 (by kernel_rfl) ?_
  refine eqf_cons (by rfl) (by go_simp; rfl) (by go_simp; rfl) (by go_simp) ?_
  exact eqf_last (by rfl) (by go_simp; rfl) (by go_simp; rfl) (by go_simp)
attribute [local go_sem high] eqSpot

theorem valid_f {s : ByteArray} (hs : s.size ≤ 140737488355328) {l : List Int} {e : Option Nat} (h : Scan s 0 l e) : text_Valid.f (s.size + 9) s = some e.isNone := by
  unfold text_Valid.f
  rw [bad_f hs h]
  simp only [Option.bind_some]
  cases e with
  | none => rfl
  | some a =>
    show some (decide ((a : Int) < 0)) = _
    rw [decide_eq_false (by omega)]; rfl

theorem blk2_set0 {w : World} {b : Nat} {x y : Value} {T : TypeId} (h : w.heap[b]? = some (.cells #[x, y] T (0, 0))) (v : Value) : (w.setCell ⟨b, 0, none⟩ v).heap[b]? = some (.cells #[v, y] T (0, 0)) := by
  simp [World.setCell, Array.getElem?_modify, h]
theorem blk2_set1 {w : World} {b : Nat} {x y : Value} {T : TypeId} (h : w.heap[b]? = some (.cells #[x, y] T (0, 0))) (v : Value) : (w.setCell ⟨b, 1, none⟩ v).heap[b]? = some (.cells #[x, v] T (0, 0)) := by
  simp [World.setCell, Array.getElem?_modify, h]

set_option maxHeartbeats 2000000 in
set_option maxRecDepth 100000 in
theorem at_bad (s : ByteArray) (line col : Int) (l : List Int) (a : Nat) (w : World) (hs : s.size ≤ 140737488355328) (h : Scan s 0 l (some a)) :
    Calls Tryz.prog 30 #[.string s, .agg #[.int .i64 line, .int .i64 col]] w fun e w' => e = .returned (.tuple #[.int .i64 0, .int .i64 10]) ∧ Below w.heap.size w w' := by
  have hv : text_Valid.f (s.size + 9) s = some false := valid_f hs h
  have HV := Aside0.mk hv
  clear hv
  go_enter Tryz.func30, Tryz.ntmps30
  go_wp2_with (first
    | (go_at_call 12; (with_reducible refine (text_Valid.calls (s.size + 9) s false _ HV.out).mono ?_); rintro e w1 ⟨rfl, ⟨nd, rfl⟩⟩))
  go_ret2
  exact ⟨rfl, by repeat (first | exact Below.refl _ _ | refine bl_drew ?_ | refine bl_drewN ?_ _ | refine bl_alloc ?_ _)⟩

set_option maxHeartbeats 4000000 in
set_option maxRecDepth 100000 in
theorem at_ok (s : ByteArray) (line col : Int) (l : List Int) (w : World) (hs : s.size ≤ 140737488355328) (h : Scan s 0 l none) :
    Calls Tryz.prog 30 #[.string s, .agg #[.int .i64 line, .int .i64 col]] w fun e w' => e = .returned (.tuple #[.int .i64 (atL line col l 0 1 1).1, .int .i64 (atL line col l 0 1 1).2]) ∧ Below w.heap.size w w' := by
  have hv : text_Valid.f (s.size + 9) s = some true := valid_f hs h
  have HV := Aside0.mk hv
  clear hv
  obtain ⟨R, hR⟩ : ∃ R, atL line col l 0 1 1 = R := ⟨_, rfl⟩
  rw [hR]
  have HR := Aside0.mk hR
  clear hR
  go_enter Tryz.func30, Tryz.ntmps30
  go_wp2_with (first
    | (go_at_call 12; (with_reducible refine (text_Valid.calls (s.size + 9) s true _ HV.out).mono ?_); rintro e w1 ⟨rfl, ⟨nd, rfl⟩⟩))
  go_loopg [7] s.size (fun kq v7 w' => ∃ (i : Nat) (rs : List Int) (ln cl : Int), v7 = .int .i64 i ∧ Aside0 (kq = s.size - i ∧ Scan s i rs none ∧ atL line col rs i ln cl = R ∧ 1 ≤ ln ∧ ln ≤ i + 1 ∧ 1 ≤ cl ∧ cl ≤ i + 1) ∧ Aside0 (w'.heap[w.heap.size]? = some (.cells #[.int .i64 line, .int .i64 col] 67 (0, 0))) ∧ Aside0 (w'.heap[w.heap.size + 1]? = some (.cells #[.int .i64 ln, .int .i64 cl] 67 (0, 0))) ∧ Aside0 (Below w.heap.size w w'))
  case atStart =>
    refine ⟨0, l, 1, 1, rfl, ⟨rfl, h, HR.out, by omega, by omega, by omega, by omega⟩, ⟨?_⟩, ⟨?_⟩, ⟨?_⟩⟩
    · rw [Below.heap_alloc _ _ _ (by simp)]; exact heap_alloc_new w _
    · exact heap_new_at _ _ _ (by simp)
    · repeat (first | exact Below.refl _ _ | refine bl_drew ?_ | refine bl_drewN ?_ _ | refine bl_alloc ?_ _)
  case round =>
    obtain ⟨i, rs, ln, cl, rfl, HI, HS, HP, HB⟩ := hrel
    obtain ⟨hk, hsc, hat, hl0, hl1, hc0, hc1⟩ := HI.out
    have hle := hsc.le
    have hsz := HB.out.size
    have s0 : wr.cell? ⟨w.heap.size, 0, none⟩ = some (.int .i64 line) := (Lib.cell_of_heap HS.out 0).trans rfl
    have s1 : wr.cell? ⟨w.heap.size, 1, none⟩ = some (.int .i64 col) := (Lib.cell_of_heap HS.out 1).trans rfl
    have p0 : wr.cell? ⟨w.heap.size + 1, 0, none⟩ = some (.int .i64 ln) := (Lib.cell_of_heap HP.out 0).trans rfl
    have p1 : wr.cell? ⟨w.heap.size + 1, 1, none⟩ = some (.int .i64 cl) := (Lib.cell_of_heap HP.out 1).trans rfl
    have f0 : wr.frozen? ⟨w.heap.size + 1, 0, none⟩ = false := Lib.frozen_of_heap HP.out 0
    have f1 : wr.frozen? ⟨w.heap.size + 1, 1, none⟩ = false := Lib.frozen_of_heap HP.out 1
    have HK := Aside0.mk hk
    have HSC := Aside0.mk hsc
    have HAT := Aside0.mk hat
    clear hk hsc hat HI
    by_cases hq : ln = line ∧ cl = col
    · have hb : (ln == line && (cl == col)) = true := by simp [hq.1, hq.2]
      have hr : R = ((i : Int), 0) := by
        rw [← HAT.out]
        cases rs with
        | nil => simp only [atL]; rw [if_pos hq]
        | cons x r => simp only [atL]; rw [if_pos hq]
      have HRR := Aside0.mk hr
      clear hq hr
      go_wp2
      go_ret2
      exact ⟨by rw [HRR.out]; rfl, HB.out⟩
    · have hb : (ln == line && (cl == col)) = false := by
        rw [Bool.eq_false_iff]; intro h; apply hq; simpa using h
      by_cases hlt : i < s.size
      · have hsc2 := HSC.out
        cases hsc2 with
        | done => omega
        | @step _ x l2 _ hi hd k =>
          have hf := first_at 0 s i hi
          rw [hd] at hf
          have HF := Aside0.mk hf
          have hten := dec_ten s i x hi hd
          have HTN := Aside0.mk hten
          have HKK := Aside0.mk k
          have hen := encI_length x
          have hle2 := k.le
          have hat2 := HAT.out
          simp only [atL] at hat2
          rw [if_neg hq] at hat2
          have HA2 := Aside0.mk hat2
          have q0 : (0 : Int) ≤ (i : Int) := by omega
          have q2 : (i : Int) ≤ (s.size : Int) := by omega
          have q3 : (i : Int) < (s.size : Int) := by omega
          have q4 : ((i : Int) == (s.size : Int)) = false := beq_eq_false_iff_ne.mpr (by omega)
          have q5 : ((s[i]'hi).toNat : Int) = bt s (i : Int) := by have := bt_at s (i : Int) (by simpa using hi); simpa using this
          clear hf hten k hd hat2 hq HAT HSC
          by_cases hx : x = 10
          · have hbx : ((bt s i) == 10) = true := beq_iff_eq.mpr (HTN.out.mpr hx)
            have HX := Aside0.mk hx
            clear hx
            go_wp2_with (first
              | (go_at_call 37; (with_reducible refine (text_First.calls 8 (s.extract i s.size) x ((encI x).length : Int) _ HF.out).mono ?_); rintro e w1 ⟨rfl, ⟨nd2, rfl⟩⟩))
            clear hbx
            go_roundg (s.size - (i + (encI x).length))
            case measure => have := HK.out; omega
            case rel =>
              refine ⟨i + (encI x).length, l2, ln + 1, 1, by go_num, ⟨rfl, HKK.out, ?_, by omega, by omega, by omega, by omega⟩, ⟨?_⟩, ⟨?_⟩, ⟨?_⟩⟩
              · have := HA2.out
                rw [if_pos HX.out, if_pos HX.out] at this
                rw [← this]; rfl
              · rw [Below.heap_setCell _ _ _ _ (by show w.heap.size ≠ w.heap.size + 1; omega), Below.heap_setCell _ _ _ _ (by show w.heap.size ≠ w.heap.size + 1; omega), Below.heap_setCell _ _ _ _ (by show w.heap.size ≠ w.heap.size + 1; omega)]; exact HS.out
              · exact blk2_set1 (blk2_set0 (blk2_set1 HP.out _) _) _
              · exact bl_set (bl_set (bl_set (bl_drewN HB.out _) (Nat.le_succ _) _) (Nat.le_succ _) _) (Nat.le_succ _) _
          · have hbx : ((bt s i) == 10) = false := beq_eq_false_iff_ne.mpr (fun h => hx (HTN.out.mp h))
            have HX := Aside0.mk hx
            clear hx
            go_wp2_with (first
              | (go_at_call 37; (with_reducible refine (text_First.calls 8 (s.extract i s.size) x ((encI x).length : Int) _ HF.out).mono ?_); rintro e w1 ⟨rfl, ⟨nd2, rfl⟩⟩))
            clear hbx
            go_roundg (s.size - (i + (encI x).length))
            case measure => have := HK.out; omega
            case rel =>
              refine ⟨i + (encI x).length, l2, ln, cl + 1, by go_num, ⟨rfl, HKK.out, ?_, by omega, by omega, by omega, by omega⟩, ⟨?_⟩, ⟨?_⟩, ⟨?_⟩⟩
              · have := HA2.out
                rw [if_neg HX.out, if_neg HX.out] at this
                rw [← this]; rfl
              · rw [Below.heap_setCell _ _ _ _ (by show w.heap.size ≠ w.heap.size + 1; omega)]; exact HS.out
              · exact blk2_set1 HP.out _
              · exact bl_set (bl_drewN HB.out _) (Nat.le_succ _) _
      · have hi : i = s.size := by omega
        subst hi
        have hrs : rs = [] := (HSC.out.unique .done).1
        have hr : R = (0, 5) := by
          rw [← HAT.out, hrs]
          simp only [atL]; rw [if_neg hq]
        have HRR := Aside0.mk hr
        clear hq hr hrs
        have q1 : ((s.size : Int) == (s.size : Int)) = true := by simp
        go_wp2
        go_ret2
        exact ⟨by rw [HRR.out]; rfl, HB.out⟩
end Go.Proofs.YtgdfgahpjebcaaaGreatDoor
