/-
  The reference's Unescape, walked; the law's 'same'.
-/
import Derived.Test.YtgdfgahpjebcaaaDoorRrf
import Derived.Test.YtgdfgahpjebcaaaDoorRes
set_option linter.unusedSimpArgs false
set_option linter.unusedVariables false
namespace Go.Proofs.YtgdfgahpjebcaaaDoor
open Go.RowKit Go.Proofs.YtgdfgahpjebcaaaDoorW.PrintWords Go.Proofs.YtgdfgahpjebcaaaDoor.PT

/-! ### same -/
set_option maxHeartbeats 2000000 in
theorem same_nil (a : Int) (w : World) : Calls Tryd.prog 26 #[.nilIface, .agg #[.int .i64 a, .int .i64 0]] w fun e w' => e = .returned (.bool true) ∧ Below w.heap.size w w' := by
  go_enter Tryd.func26, Tryd.ntmps26
  go_wp2
  go_ret
  exact ⟨rfl, bl_alloc (Below.refl _ _) _⟩
set_option maxHeartbeats 2000000 in
theorem same_ref (g : Nat) (a y : Int) (w : World) (h : IsRef w g a y) (he : Env w) (ha : -9223372036854775808 ≤ a ∧ a ≤ 9223372036854775807) (hy : 0 < y ∧ y < 100) :
    Calls Tryd.prog 26 #[.iface 75 (.pointer (some ⟨g, 0, none⟩)), .agg #[.int .i64 a, .int .i64 y]] w fun e w' => e = .returned (.bool true) ∧ Below w.heap.size w w' := by
  have HF := Aside0.mk h
  have HE := Aside0.mk he
  have c1 : (y == 0) = false := beq_eq_false_iff_ne.mpr (by omega)
  have hb : Below w.heap.size w (w.alloc (.cells #[.int .i64 a, .int .i64 y] 46)) := bl_alloc (Below.refl _ _) _
  have HF2 := Aside0.mk (h.below hb h.lt)
  have HE2 := Aside0.mk (he.below hb he.size)
  clear h hb he
  go_enter Tryd.func26, Tryd.ntmps26
  go_wp2_with (first
    | (go_at_call 40; (with_reducible refine (refused_hit g a y _ HF2.out HE2.out ha ?_).mono ?_); (focus omega); rintro e w5 ⟨rfl, hb5⟩))
  go_ret
  exact ⟨rfl, bl_trans (bl_alloc (Below.refl _ _) _) hb5⟩
/-- same at what a function of SPost and the reference answer. -/
def ErrIs (w : World) (v : Value) (a y : Int) : Prop := (y = 0 ∧ v = .nilIface) ∨ (y ≠ 0 ∧ ∃ g, v = .iface 75 (.pointer (some ⟨g, 0, none⟩)) ∧ IsRef w g a y)
theorem ErrIs.below {w w' : World} {v : Value} {a y : Int} (h : ErrIs w v a y) (hb : Below w.heap.size w w') : ErrIs w' v a y := by
  rcases h with h | ⟨h, g, hv, hr⟩
  · exact .inl h
  · exact .inr ⟨h, g, hv, hr.below hb hr.lt⟩
theorem same_any (v : Value) (a y : Int) (w : World) (h : ErrIs w v a y) (he : Env w) (ha : -9223372036854775808 ≤ a ∧ a ≤ 9223372036854775807) (hy : 0 ≤ y ∧ y < 100) :
    Calls Tryd.prog 26 #[v, .agg #[.int .i64 a, .int .i64 y]] w fun e w' => e = .returned (.bool true) ∧ Below w.heap.size w w' := by
  rcases h with ⟨rfl, rfl⟩ | ⟨h0, g, rfl, hr⟩
  · exact same_nil a w
  · exact same_ref g a y w hr he ha (by omega)

/-! ### Unescape -/
theorem urun_none (s : ByteArray) : ∀ k i b, (urun s k i b).2.2 ≠ 0 → (urun s k i b).1 = [] := by
  intro k
  induction k with
  | zero => intro i b h; exact absurd rfl h
  | succ k ih =>
    intro i b
    rw [urun]
    split
    · split
      · intro _; rfl
      · split
        · split
          · intro _; rfl
          · exact ih _ _
        · exact ih _ _
    · intro h; exact absurd rfl h
theorem urun_range (s : ByteArray) (hs : s.size ≤ 17592186000000) : ∀ k i b, (0 ≤ (urun s k i b).2.1 ∧ (urun s k i b).2.1 ≤ s.size) ∧ (0 ≤ (urun s k i b).2.2 ∧ (urun s k i b).2.2 < 100) := by
  intro k
  induction k with
  | zero => intro i b; rw [urun]; exact ⟨⟨Int.le_refl 0, by show (0 : Int) ≤ _; omega⟩, Int.le_refl 0, by show (0 : Int) < 100; decide⟩
  | succ k ih =>
    intro i b
    rw [urun]
    split
    · rename_i hi
      split
      · exact ⟨⟨by show (0 : Int) ≤ (i : Int); omega, by show (i : Int) ≤ _; omega⟩, by show (0 : Int) ≤ 13; decide, by show (13 : Int) < 100; decide⟩
      · split
        · split
          · exact ⟨⟨by show (0 : Int) ≤ (i : Int); omega, by show (i : Int) ≤ _; omega⟩, by show (0 : Int) ≤ 11; decide, by show (11 : Int) < 100; decide⟩
          · exact ih _ _
        · exact ih _ _
    · exact ⟨⟨by show (0 : Int) ≤ 0; decide, by show (0 : Int) ≤ _; omega⟩, by show (0 : Int) ≤ 0; decide, by show (0 : Int) < 100; decide⟩

set_option maxHeartbeats 8000000 in
set_option maxRecDepth 100000 in
theorem runescape_bad (s : ByteArray) (l : List Int) (a : Nat) (w : World) (hs : s.size ≤ 2000000) (h : Scan s 0 l (some a)) :
    Calls Tryd.prog 38 #[.string s] w fun e w' => e = .returned (.tuple #[.string ⟨#[]⟩, .agg #[.int .i64 a, .int .i64 10]]) ∧ Below w.heap.size w w' := by
  have HH := Aside0.mk h
  clear h
  go_enter Tryd.func38, Tryd.ntmps38
  go_wp2_with (first
    | (go_at_call 25; (with_reducible refine (rrunes_any s l (some a) _ (by omega) HH.out [] a 10 rfl).mono ?_); rintro e w1 ⟨A, c, rfl, hc, hr, hb1⟩; have HB1 := Aside0.mk hb1; have hg1 := keepH (B := 0) (heap_alloc_new w (.cells #[.int .i64 0, .int .i64 0] 46)) hb1; have hg2 := keepH (B := 0) hg1 (bl_alloc (Below.refl w1.heap.size w1) (.cells #[.int .i64 (a : Int), .int .i64 10] 46)); have c0 := cell_at0 hg2; have c1 := cell_at1 hg2; have z0 := Lib.frozen_of_heap hg2 0; have z1 := Lib.frozen_of_heap hg2 1; have HG2 := Aside0.mk hg2; clear hb1 hr hc hg1 hg2))
  go_region
  all_goals go_wp2
  all_goals
    refine bodyPost_ret (results_tc rfl _ _ w.heap.size 46 #[.int .i64 a, .int .i64 10] (0, 0) _ rfl (blk2_set1 (blk2_set0 HG2.out _) _) Tryd.underlying46 rfl (by kernel_rfl)) rfl ?_
    exact ⟨rfl, bl_drew (bl_set (bl_set (bl_alloc (bl_trans (bl_alloc (Below.refl _ _) _) HB1.out) _) (Nat.le_refl _) _) (Nat.le_refl _) _)⟩

theorem dec_amp (s : ByteArray) (i : Nat) (hi : i < s.size) (h : (dec s i).1 = 38) : bt s (i : Int) = 38 := by
  rcases dec_cases s i hi with h0 | ⟨c, hd, _, hdr, _⟩
  · have := dec_zero s i h0; omega
  · rw [hd] at h
    have hc : c = 38 := h
    subst hc
    have d0 := drop_step s i hi
    have e : encI 38 = [38] := by unfold encI; rw [if_pos (by decide)]
    rw [hdr, e] at d0
    injection d0 with d1 d2
    exact d1.symm
/-- A Bad that is told. -/
theorem tell_bad {w wr : World} {g : Nat} {x y a b : Value} (h : wr.heap[g]? = some (.cells #[x, y] 46 (0, 0))) : ((wr.setCell ⟨g, 0, none⟩ a).setCell ⟨g, 1, none⟩ b).heap[g]? = some (.cells #[a, b] 46 (0, 0)) := blk2_set1 (blk2_set0 h _) _

set_option maxHeartbeats 16000000 in
set_option maxRecDepth 100000 in
theorem runescape_ok (s : ByteArray) (l : List Int) (w : World) (hs : s.size ≤ 2000000) (h : Scan s 0 l none) :
    Calls Tryd.prog 38 #[.string s] w fun e w' => e = .returned (.tuple #[.string (strOfNums (uneI s none).1), .agg #[.int .i64 (uneI s none).2.1, .int .i64 (uneI s none).2.2]]) ∧ Below w.heap.size w w' := by
  have hmk := print_make (P := Tryd.prog) 87 5 .u8 1 Tryd.underlying87 infoByte (by decide) 0 (by decide)
  rw [show ((0 : Nat) : Int) = 0 from rfl] at hmk
  have HH := Aside0.mk h
  obtain ⟨R, hR⟩ : ∃ R, uneI s none = R := ⟨_, rfl⟩
  rw [hR]
  unfold uneI at hR
  have HR := Aside0.mk hR
  clear h hR
  go_enter Tryd.func38, Tryd.ntmps38
  go_wp2_with (first
    | (go_at_call 25; (with_reducible refine (rrunes_any s l none _ (by omega) HH.out l 0 0 rfl).mono ?_); rintro e w1 ⟨A, c, rfl, hc, hr, hb1⟩; have HB1 : Aside0 (Below w.heap.size w w1) := ⟨bl_trans (bl_alloc (Below.refl _ _) _) hb1⟩; have hg1 := keepH (B := 0) (heap_alloc_new w (.cells #[.int .i64 0, .int .i64 0] 46)) hb1; have HG1 := Aside0.mk hg1; clear hb1 hr hc hg1))
  clear hmk
  go_loopg [6, 7] s.size (fun kq v6 v7 w' => ∃ (i : Nat) (b : List Int) (k : Nat), v7 = .int .i64 i ∧ Aside0 (kq = s.size - i ∧ b.length ≤ 4 * i ∧ i ≤ s.size ∧ urun s k i b = R ∧ s.size - i ≤ k) ∧ Aside0 (w'.ownsRow w1.heap.size 5 1 v6 b.length (nums .u8 b)) ∧ Aside0 (Below w1.heap.size w1 w'))
  case atStart => exact ⟨0, [], s.size, rfl, ⟨rfl, by simp, by omega, HR.out, by omega⟩, ⟨by have h := own_made (w1.alloc (.cells #[.int .i64 0, .int .i64 0] 46)) w1.heap.size 5 .u8 0 (by simp) (by decide); rw [World.size_alloc] at h; exact h⟩, ⟨bl_alloc (bl_alloc (Below.refl _ _) _) _⟩⟩
  case round =>
    obtain ⟨i, b, k, rfl, HI, HO, HB⟩ := hrel
    obtain ⟨hk, hbl, hile, hrun, hkk⟩ := HI.out
    have hsz := HB.out.size
    have hg := keepH (B := 0) HG1.out HB.out
    have k0 := cell_at0 hg
    have k1' := cell_at1 hg
    have z0 := Lib.frozen_of_heap hg 0
    have z1 := Lib.frozen_of_heap hg 1
    have HG := Aside0.mk hg
    have HW1 := Aside0.mk HB1.out.size
    clear hg
    by_cases hlt : i < s.size
    · have hi : i < s.size := hlt
      obtain ⟨k', rfl⟩ : ∃ k', k = k' + 1 := ⟨k - 1, by omega⟩
      rw [urun, if_pos hi] at hrun
      have q1 : ((i : Int) < (s.size : Int)) = True := eq_true (by omega)
      have q3 : (0 : Int) ≤ (i : Int) := by omega
      have hf := one_f 0 s (i : Int) q3 (by omega) (by omega)
      have hdc := dec_cases s i hi
      have hamp := dec_amp s i hi
      obtain ⟨c, n, hd⟩ : ∃ c n, dec s i = (c, n) := ⟨_, _, rfl⟩
      rw [hd] at hf hrun hdc hamp
      simp only at hrun hdc hamp
      have HF := Aside0.mk hf
      have hxf := rxml_f c
      have HK := Aside0.mk hk
      by_cases k1 : xmlB c = false ∨ c = 60
      · rw [if_pos k1] at hrun
        have HRR := Aside0.mk hrun
        have hc1 : (xmlB c = false) ∨ (xmlB c = true ∧ c = 60) := by
          cases hx : xmlB c with
          | false => exact .inl rfl
          | true => rw [hx] at k1; exact .inr ⟨rfl, k1.resolve_left (by decide)⟩
        rcases hc1 with hx | ⟨hx, h60⟩
        · rw [hx] at hxf
          have HXF := Aside0.mk hxf
          clear hrun hlt k1 hf hd hdc hxf hx hk HI hamp
          go_wp2_with (first
            | (go_at_call 57; (with_reducible refine (emendref1_One.calls 9 s (i : Int) c n _ HF.out).mono ?_); rintro e w2 ⟨rfl, ⟨nd2, rfl⟩⟩)
            | (go_at_call 61; (with_reducible refine (emendref1_XML.calls c false _ HXF.out).mono ?_); rintro e w3 ⟨rfl, ⟨nd3, rfl⟩⟩))
          refine bodyPost_ret (results_tc rfl _ _ w.heap.size 46 #[.int .i64 i, .int .i64 13] (0, 0) _ rfl (blk2_set1 (blk2_set0 HG.out _) _) Tryd.underlying46 rfl (by kernel_rfl)) rfl ?_
          exact ⟨by rw [← HRR.out]; rfl, bl_set (bl_set (bl_trans HB1.out (bl_drewN HB.out _)) (Nat.le_refl _) _) (Nat.le_refl _) _⟩
        · rw [hx] at hxf
          have HXF := Aside0.mk hxf
          have c1 : (c == 60) = true := by simpa using h60
          have c2 : (c = 60) = True := eq_true h60
          clear hrun hlt k1 hf hd hdc hxf hx hk HI h60 hamp
          go_wp2_with (first
            | (go_at_call 57; (with_reducible refine (emendref1_One.calls 9 s (i : Int) c n _ HF.out).mono ?_); rintro e w2 ⟨rfl, ⟨nd2, rfl⟩⟩)
            | (go_at_call 61; (with_reducible refine (emendref1_XML.calls c true _ HXF.out).mono ?_); rintro e w3 ⟨rfl, ⟨nd3, rfl⟩⟩))
          refine bodyPost_ret (results_tc rfl _ _ w.heap.size 46 #[.int .i64 i, .int .i64 13] (0, 0) _ rfl (blk2_set1 (blk2_set0 HG.out _) _) Tryd.underlying46 rfl (by kernel_rfl)) rfl ?_
          exact ⟨by rw [← HRR.out]; rfl, bl_set (bl_set (bl_trans HB1.out (bl_drewN HB.out _)) (Nat.le_refl _) _) (Nat.le_refl _) _⟩
      · rw [if_neg k1] at hrun
        have hx : xmlB c = true := by
          cases hx : xmlB c with
          | true => rfl
          | false => exact absurd (Or.inl hx) k1
        have h60 : ¬ c = 60 := fun h => k1 (Or.inr h)
        have c1 : (c == 60) = false := by simpa using h60
        have c2 : (c = 60) = False := eq_false h60
        rw [hx] at hxf
        have HXF := Aside0.mk hxf
        by_cases k2 : c = 38
        · rw [if_pos k2] at hrun
          have c3 : (c == 38) = true := by simpa using k2
          have hrr := refI_range (s.extract i s.size)
          have hz : (s.extract i s.size).size = s.size - i := by simp
          have h38 := hamp k2
          have HRF := Aside0.mk (fun w => rref_any s i w hs hi h38)
          obtain ⟨r, m, hrm⟩ : ∃ r m, refI (s.extract i s.size) = (r, m) := ⟨_, _, rfl⟩
          rw [hz, hrm] at hrr
          rw [hrm] at hrun HRF
          simp only at hrun hrr HRF
          by_cases k3 : m = 0
          · rw [if_pos k3] at hrun
            have HRR := Aside0.mk hrun
            have c4 : (m == 0) = true := by simpa using k3
            clear hrun hlt k1 hf hd hdc hxf hx hk HI h60 k2 hrr hz hrm k3 hamp h38
            go_wp2_with (first
              | (go_at_call 57; (with_reducible refine (emendref1_One.calls 9 s (i : Int) c n _ HF.out).mono ?_); rintro e w2 ⟨rfl, ⟨nd2, rfl⟩⟩)
              | (go_at_call 61; (with_reducible refine (emendref1_XML.calls c true _ HXF.out).mono ?_); rintro e w3 ⟨rfl, ⟨nd3, rfl⟩⟩)
              | (go_at_call 62; (with_reducible refine (HRF.out _).mono ?_); rintro e w4 ⟨rfl, hb4⟩; have hg4 := keepH (B := 0) HG.out (bl_trans (bl_drewN (Below.refl _ _) _) hb4); have y0 := cell_at0 hg4; have y1 := cell_at1 hg4; have x0 := Lib.frozen_of_heap hg4 0; have x1 := Lib.frozen_of_heap hg4 1; have HG4 := Aside0.mk hg4; have HB4 := Aside0.mk hb4; clear hg4 hb4))
            refine bodyPost_ret (results_tc rfl _ _ w.heap.size 46 #[.int .i64 i, .int .i64 11] (0, 0) _ rfl (blk2_set1 (blk2_set0 HG4.out _) _) Tryd.underlying46 rfl (by kernel_rfl)) rfl ?_
            exact ⟨by rw [← HRR.out]; rfl, bl_set (bl_set (bl_trans (bl_trans HB1.out (bl_drewN HB.out _)) HB4.out) (Nat.le_refl _) _) (Nat.le_refl _) _⟩
          · rw [if_neg k3] at hrun
            have HRR := Aside0.mk hrun
            have c4 : (m == 0) = false := by simpa using k3
            obtain ⟨hm1, hm2, hch⟩ := hrr.resolve_left k3
            have HCH := Aside0.mk hch
            have hel := encI_length r
            clear hrun hlt k1 hf hd hdc hxf hx hk HI h60 k2 hz hrm k3 hch hrr hamp h38
            go_wp2_with (first
              | (go_at_call 57; (with_reducible refine (emendref1_One.calls 9 s (i : Int) c n _ HF.out).mono ?_); rintro e w2 ⟨rfl, ⟨nd2, rfl⟩⟩)
              | (go_at_call 61; (with_reducible refine (emendref1_XML.calls c true _ HXF.out).mono ?_); rintro e w3 ⟨rfl, ⟨nd3, rfl⟩⟩)
              | (go_at_call 62; (with_reducible refine (HRF.out _).mono ?_); rintro e w4 ⟨rfl, hb4⟩; have HB4 : Aside0 (Below wr.heap.size wr w4) := ⟨bl_trans (bl_drewN (Below.refl _ _) _) hb4⟩; have hw4 := HB4.out.size; clear hb4)
              | (go_at_call 59; (with_reducible refine (emendref1_Byte.calls r (strOfNums (encI r)) _ (byte_f r HCH.out)).mono ?_); rintro e w5 ⟨rfl, hb5⟩; have HB5 : Aside0 (Below wr.heap.size wr w5) := ⟨bl_trans HB4.out hb5⟩; have hw5 := HB5.out.size; clear hb5)
              | (at_builtin; refine print_append_str (w0 := w1) w1.heap.size rfl (.tmp 51) _ 87 9 5 rfl Tryd.underlying87 Tryd.underlying9 infoByte _ b (strOfNums (encI r)) rfl rfl (by exact owns_below HO.out HB5.out) (by exact bl_trans HB.out HB5.out) (by exact Nat.le_trans hsz hw5) (by rw [str_size]; omega) ?_; intro v6 w6 ho6 hb6 hg6; have HO6 := Aside0.mk ho6; have HB6 := Aside0.mk hb6; clear ho6 hb6 hg6))
            go_roundg (s.size - (i + m.toNat))
            case measure => have := HK.out; omega
            case rel => exact ⟨i + m.toNat, b ++ encI r, k', by go_num, ⟨rfl, by simp only [List.length_append]; omega, by omega, HRR.out, by omega⟩, ⟨by have := HO6.out; rw [bytesOf_str _ (encI_bytes r HCH.out)] at this; exact this⟩, ⟨HB6.out⟩⟩
        · rw [if_neg k2] at hrun
          have c3 : (c == 38) = false := by simpa using k2
          have HRR := Aside0.mk hrun
          have HCH := Aside0.mk (xml_char hx)
          have hnn : n = (encI c).length ∧ i + (encI c).length ≤ s.size := by
            rcases hdc with h0 | ⟨c', hcc, _, _, h4⟩
            · exfalso
              have hz0 := dec_zero s i (by rw [hd]; exact h0)
              rw [hd] at hz0
              simp only at hz0
              subst hz0
              exact absurd hx (by decide)
            · injection hcc with e1 e2
              subst e1
              exact ⟨e2, h4⟩
          have hel := encI_length c
          clear hrun hlt k1 hf hd hdc hxf hx hk HI h60 k2 hamp
          go_wp2_with (first
            | (go_at_call 57; (with_reducible refine (emendref1_One.calls 9 s (i : Int) c n _ HF.out).mono ?_); rintro e w2 ⟨rfl, ⟨nd2, rfl⟩⟩)
            | (go_at_call 61; (with_reducible refine (emendref1_XML.calls c true _ HXF.out).mono ?_); rintro e w3 ⟨rfl, ⟨nd3, rfl⟩⟩)
            | (go_at_call 59; (with_reducible refine (emendref1_Byte.calls c (strOfNums (encI c)) _ (byte_f c HCH.out)).mono ?_); rintro e w5 ⟨rfl, hb5⟩; have HB5 : Aside0 (Below wr.heap.size wr w5) := ⟨bl_trans (bl_drewN (Below.refl _ _) _) hb5⟩; have hw5 := HB5.out.size; clear hb5)
            | (at_builtin; refine print_append_str (w0 := w1) w1.heap.size rfl (.tmp 51) _ 87 9 5 rfl Tryd.underlying87 Tryd.underlying9 infoByte _ b (strOfNums (encI c)) rfl rfl (by exact owns_below HO.out HB5.out) (by exact bl_trans HB.out HB5.out) (by exact Nat.le_trans hsz hw5) (by rw [str_size]; omega) ?_; intro v6 w6 ho6 hb6 hg6; have HO6 := Aside0.mk ho6; have HB6 := Aside0.mk hb6; clear ho6 hb6 hg6))
          go_roundg (s.size - (i + n.toNat))
          case measure => have := HK.out; omega
          case rel => exact ⟨i + n.toNat, b ++ encI c, k', by go_num, ⟨rfl, by simp only [List.length_append]; omega, by omega, HRR.out, by omega⟩, ⟨by have := HO6.out; rw [bytesOf_str _ (encI_bytes c HCH.out)] at this; exact this⟩, ⟨HB6.out⟩⟩
    · have hi : i = s.size := by omega
      subst hi
      have hr : R = (b, 0, 0) := by
        rw [← hrun]
        cases k with
        | zero => rfl
        | succ k => rw [urun, if_neg (by omega)]
      have HRR := Aside0.mk hr
      have q1 : ((s.size : Int) < (s.size : Int)) = False := eq_false (by omega)
      have hO := HO.out
      have hstr := own_string (src := 87) (dst := 9) (e := 5) Tryd.underlying87 Tryd.underlying5 Tryd.underlying9 hO
      clear hr hrun hlt hO HI hk
      go_wp2
      refine bodyPost_ret (results_tc rfl _ _ w.heap.size 46 #[.int .i64 0, .int .i64 0] (0, 0) _ rfl (blk2_set1 (blk2_set0 HG.out _) _) Tryd.underlying46 rfl (by kernel_rfl)) rfl ?_
      exact ⟨by rw [HRR.out]; rfl, bl_set (bl_set (bl_trans HB1.out HB.out) (Nat.le_refl _) _) (Nat.le_refl _) _⟩
end Go.Proofs.YtgdfgahpjebcaaaDoor
