/-
  The reference's Escape, walked. PRINTED by gen_res.py.
-/
import Derived.Test.YtgdfgahpjebcaaaDoorBkx
import Derived.Test.YtgdfgahpjebcaaaDoorByt
set_option linter.unusedSimpArgs false
set_option linter.unusedVariables false
namespace Go.Proofs.YtgdfgahpjebcaaaDoor
open Go.RowKit Go.Proofs.YtgdfgahpjebcaaaDoorW.PrintWords Go.Proofs.YtgdfgahpjebcaaaDoor.PT

theorem rrunes_any (s : ByteArray) (l : List Int) (er : Option Nat) (w : World) (hs : s.size ≤ 17592186000000) (h : Scan s 0 l er) (r : List Int) (a y : Int) (hr : runesS l er = (r, a, y)) :
    Calls Tryd.prog 25 #[.string s] w fun e w' => ∃ A c, e = .returned (.tuple #[.slice A r.length c, .agg #[.int .i64 a, .int .i64 y]]) ∧ r.length ≤ c ∧ Kd.C (Kd.int .i64) w' A r.length r ∧ Below w.heap.size w w' := by
  refine (emendref1_Runes.calls (s.size + 10) s r a y w (by rw [runes_f hs h, hr])).mono fun e w' hp => ?_
  obtain ⟨v, he, hR, hb⟩ := hp
  have ho := Kd.own_of_R (enc := Value.int .i64) (h1 := fun _ => rfl) hR
  obtain ⟨A, c, rfl, hc, hC⟩ := own_C (l := r) ho
  exact ⟨A, c, he, hc, hC, hb⟩
theorem rxml_f (c : Int) : emendref1_XML.f c = some (xmlB c) := xml_f c

/-- How the reference writes a character. -/
def rr (attr : Bool) (c : Int) : List Int := if (refB c attr).size = 0 then encI c else bytesOf (refB c attr)
theorem rr_eq (attr : Bool) (c : Int) (h : charB c = true) : rr attr c = (encI c).flatMap (eb attr) := by
  have hc := (charB_spec c).1 h
  unfold rr
  by_cases h1 : c < 128
  · have e : encI c = [c] := by unfold encI; rw [if_pos h1]
    rw [e]
    simp only [List.flatMap_cons, List.flatMap_nil, List.append_nil]
    unfold eb
    rfl
  · have e : (refB c attr).size = 0 := by
      unfold refB
      repeat' split
      all_goals (first | rfl | omega)
    rw [if_pos e, flat_one (eb attr) (encI c) (fun x hx => eb_high attr x (encI_high c h (by omega) x hx))]
theorem rr_flat (attr : Bool) (l : List Int) (h : l.all charB = true) : l.flatMap (rr attr) = (encs l).flatMap (eb attr) := by
  induction l with
  | nil => rfl
  | cons c l ih =>
    simp only [List.all_cons, Bool.and_eq_true] at h
    rw [List.flatMap_cons, encs_cons, List.flatMap_append, rr_eq attr c h.1, ih h.2]
theorem rr_len (attr : Bool) (c : Int) : (rr attr c).length ≤ 6 := by
  have := encI_length c
  have := refB_size c attr
  unfold rr; split
  · omega
  · rw [bytesOf_length]; omega
theorem rr_lens (attr : Bool) (l : List Int) : (l.flatMap (rr attr)).length ≤ 6 * l.length := by
  induction l with
  | nil => simp
  | cons c l ih => rw [List.flatMap_cons, List.length_append, List.length_cons]; have := rr_len attr c; omega
theorem flat_take (f : Int → List Int) (l : List Int) (i : Nat) (hi : i < l.length) : (l.take (i + 1)).flatMap f = (l.take i).flatMap f ++ f l[i] := by
  rw [List.take_succ_eq_append_getElem hi, List.flatMap_append]; simp
theorem badX_no (l : List Int) : ∀ i, l.all xmlB = true → badX i l = -1 := by
  induction l with
  | nil => intro i _; rfl
  | cons c l ih =>
    intro i h
    simp only [List.all_cons, Bool.and_eq_true] at h
    unfold badX
    rw [if_pos h.1]; exact ih _ h.2
theorem badX_yes (l : List Int) (i j : Nat) (hj : j < l.length) (h : xmlB l[j] = false) : 0 ≤ badX i l := by
  rcases badX_range l i with h1 | h1
  · exfalso
    have := badX_all l i (by omega) l[j] (List.getElem_mem hj)
    rw [h] at this; cases this
  · omega
theorem all_take_xml (l : List Int) (i : Nat) (hi : i < l.length) (h : (l.take i).all xmlB = true) (hc : xmlB l[i] = true) : (l.take (i + 1)).all xmlB = true := by
  rw [List.take_succ_eq_append_getElem hi, List.all_append, h]; simp [hc]

set_option maxHeartbeats 4000000 in
set_option maxRecDepth 100000 in
theorem rescape_bad (attr : Bool) (s : ByteArray) (l : List Int) (a : Nat) (w : World) (hs : s.size ≤ 17592186000000) (h : Scan s 0 l (some a)) :
    Calls Tryd.prog 37 #[.string s, .bool attr] w fun e w' => e = .returned (.tuple #[.string ⟨#[]⟩, .int .i64 10]) ∧ Below w.heap.size w w' := by
  have HH := Aside0.mk h
  clear h
  go_enter Tryd.func37, Tryd.ntmps37
  go_wp2_with (first
    | (go_at_call 25; (with_reducible refine (rrunes_any s l (some a) _ hs HH.out [] a 10 rfl).mono ?_); rintro e w1 ⟨A, c, rfl, hc, hr, hb1⟩; have HB1 := Aside0.mk hb1; clear hb1 hr hc))
  go_ret2
  exact ⟨rfl, bl_alloc HB1.out _⟩


set_option maxHeartbeats 8000000 in
set_option maxRecDepth 100000 in
theorem rescape_true (s : ByteArray) (l : List Int) (w : World) (hs : s.size ≤ 2000000) (h : Scan s 0 l none) :
    Calls Tryd.prog 37 #[.string s, .bool true] w fun e w' => e = .returned (.tuple #[.string (strOfNums (escS true s l none).1), .int .i64 (escS true s l none).2]) ∧ Below w.heap.size w w' := by
  have hmk := print_make (P := Tryd.prog) 87 5 .u8 1 Tryd.underlying87 infoByte (by decide) 0 (by decide)
  rw [show ((0 : Nat) : Int) = 0 from rfl] at hmk
  have hll := scan_bytes h
  have hlen := (encs_len l).1
  have hsz : (encs l).length = s.size := by rw [← hll.2, bytesOf_length]
  have HALL := Aside0.mk hll.1
  have HENC := Aside0.mk hll.2
  have HH := Aside0.mk h
  obtain ⟨X, hX⟩ : ∃ X, escS true s l none = X := ⟨_, rfl⟩
  rw [hX]
  have HX := Aside0.mk hX
  clear h hll hX
  go_enter Tryd.func37, Tryd.ntmps37
  go_wp2_with (first
    | (go_at_call 25; (with_reducible refine (rrunes_any s l none _ (by omega) HH.out l 0 0 rfl).mono ?_); rintro e w1 ⟨A, c, rfl, hc, hr, hb1⟩; have HB1 := Aside0.mk hb1; have HR1 := Aside0.mk hr; have HC1 := Aside0.mk hc; clear hb1 hr hc))
  clear hmk
  go_loopg [8, 9] l.length (fun kq v8 v9 w' => ∃ i : Nat, v9 = .int .i64 i ∧ Aside0 (kq = l.length - i ∧ i ≤ l.length ∧ (l.take i).all xmlB = true) ∧ Aside0 (w'.ownsRow w1.heap.size 5 1 v8 ((l.take i).flatMap (rr true)).length (nums .u8 ((l.take i).flatMap (rr true)))) ∧ Aside0 (Below w1.heap.size w1 w'))
  case atStart => exact ⟨0, rfl, ⟨rfl, Nat.zero_le _, rfl⟩, ⟨by have h := own_made (w1.alloc (.cells #[.int .i64 0, .int .i64 0] 46)) w1.heap.size 5 .u8 0 (by simp) (by decide); rw [World.size_alloc] at h; exact h⟩, ⟨bl_alloc (bl_alloc (Below.refl _ _) _) _⟩⟩
  case round =>
    obtain ⟨i, rfl, HI, HO, HB⟩ := hrel
    have HC := Aside0.mk (Kd.C_below HR1.out HB.out)
    obtain ⟨hk, hi0, hia⟩ := HI.out
    have HK := Aside0.mk hk
    have HIA := Aside0.mk hia
    have hwz := HB.out.size
    have hql := rr_lens true (l.take i)
    have htl : (l.take i).length ≤ i := List.length_take_le _ _
    clear HI hk hia
    by_cases hlt : i < l.length
    · have hx := Kd.at_int HC.out (i : Int) (by omega) (by omega)
      obtain ⟨ad, rfl, hx⟩ := hx
      have hrd : rd l (i : Int) = l[i] := by simp [rd, List.getD_eq_getElem?_getD, List.getElem?_eq_getElem hlt]
      rw [Int.toNat_natCast, hrd] at hx
      have hft := flat_take (rr true) l i hlt
      have hat := all_take_xml l i hlt HIA.out
      have hby := badX_yes l 0 i hlt
      have hch := List.all_eq_true.1 HALL.out l[i] (List.getElem_mem hlt)
      obtain ⟨c0, hc0⟩ : ∃ c0, l[i] = c0 := ⟨_, rfl⟩
      rw [hc0] at hx hft hat hby hch
      have p1 : (0 : Int) ≤ (i : Int) := by omega
      have q1 : ((i : Int) < (l.length : Int)) = True := eq_true (by omega)
      have hxf := rxml_f c0
      have HFT := Aside0.mk hft
      have HAT := Aside0.mk hat
      have HBY := Aside0.mk hby
      have HCH := Aside0.mk hch
      clear hft hat hby hch hrd hc0
      by_cases hxc : xmlB c0 = true
      · rw [hxc] at hxf
        have HXF := Aside0.mk hxf
        have HXC := Aside0.mk hxc
        clear hxf hxc
        by_cases k38 : c0 = 38
        · have hk : rr true c0 = bytesOf ⟨#[38, 97, 109, 112, 59]⟩ := by subst k38; rfl
          have HKK := Aside0.mk hk
          clear hk
          have c38 : (c0 == 38) = true := by simp; omega
          have c60 : (c0 == 60) = false := by simp; omega
          have c62 : (c0 == 62) = false := by simp; omega
          have c13 : (c0 == 13) = false := by simp; omega
          have c34 : (c0 == 34) = false := by simp; omega
          have c9 : (c0 == 9) = false := by simp; omega
          have c10 : (c0 == 10) = false := by simp; omega
          clear k38
          go_wp2_with (first
            | (go_at_call 61; (with_reducible refine (emendref1_XML.calls c0 true _ HXF.out).mono ?_); rintro e w2 ⟨rfl, ⟨nd2, rfl⟩⟩)
            | (at_builtin; refine print_append_str (w0 := w1) w1.heap.size rfl (.tmp 41) _ 87 9 5 rfl Tryd.underlying87 Tryd.underlying9 infoByte _ ((l.take i).flatMap (rr true)) ⟨#[38, 97, 109, 112, 59]⟩ rfl rfl (by exact HO.out) (by exact bl_drewN HB.out _) (by exact hwz) (by have h6 : (⟨#[38, 97, 109, 112, 59]⟩ : ByteArray).size ≤ 6 := (by decide); omega) ?_; intro v3 w3 ho3 hb3 hg3; have HO3 := Aside0.mk ho3; have HB3 := Aside0.mk hb3; have HG3 := Aside0.mk hg3; clear ho3 hb3 hg3))
          go_roundg (l.length - (i + 1))
          case measure => have := HK.out; omega
          case rel => exact ⟨i + 1, by go_num, ⟨rfl, by omega, HAT.out HXC.out⟩, ⟨by rw [HFT.out, HKK.out]; exact HO3.out⟩, ⟨HB3.out⟩⟩
        by_cases k60 : c0 = 60
        · have hk : rr true c0 = bytesOf ⟨#[38, 108, 116, 59]⟩ := by subst k60; rfl
          have HKK := Aside0.mk hk
          clear hk
          have c38 : (c0 == 38) = false := by simp; omega
          have c60 : (c0 == 60) = true := by simp; omega
          have c62 : (c0 == 62) = false := by simp; omega
          have c13 : (c0 == 13) = false := by simp; omega
          have c34 : (c0 == 34) = false := by simp; omega
          have c9 : (c0 == 9) = false := by simp; omega
          have c10 : (c0 == 10) = false := by simp; omega
          clear k38 k60
          go_wp2_with (first
            | (go_at_call 61; (with_reducible refine (emendref1_XML.calls c0 true _ HXF.out).mono ?_); rintro e w2 ⟨rfl, ⟨nd2, rfl⟩⟩)
            | (at_builtin; refine print_append_str (w0 := w1) w1.heap.size rfl (.tmp 46) _ 87 9 5 rfl Tryd.underlying87 Tryd.underlying9 infoByte _ ((l.take i).flatMap (rr true)) ⟨#[38, 108, 116, 59]⟩ rfl rfl (by exact HO.out) (by exact bl_drewN HB.out _) (by exact hwz) (by have h6 : (⟨#[38, 108, 116, 59]⟩ : ByteArray).size ≤ 6 := (by decide); omega) ?_; intro v3 w3 ho3 hb3 hg3; have HO3 := Aside0.mk ho3; have HB3 := Aside0.mk hb3; have HG3 := Aside0.mk hg3; clear ho3 hb3 hg3))
          go_roundg (l.length - (i + 1))
          case measure => have := HK.out; omega
          case rel => exact ⟨i + 1, by go_num, ⟨rfl, by omega, HAT.out HXC.out⟩, ⟨by rw [HFT.out, HKK.out]; exact HO3.out⟩, ⟨HB3.out⟩⟩
        by_cases k62 : c0 = 62
        · have hk : rr true c0 = bytesOf ⟨#[38, 103, 116, 59]⟩ := by subst k62; rfl
          have HKK := Aside0.mk hk
          clear hk
          have c38 : (c0 == 38) = false := by simp; omega
          have c60 : (c0 == 60) = false := by simp; omega
          have c62 : (c0 == 62) = true := by simp; omega
          have c13 : (c0 == 13) = false := by simp; omega
          have c34 : (c0 == 34) = false := by simp; omega
          have c9 : (c0 == 9) = false := by simp; omega
          have c10 : (c0 == 10) = false := by simp; omega
          clear k38 k60 k62
          go_wp2_with (first
            | (go_at_call 61; (with_reducible refine (emendref1_XML.calls c0 true _ HXF.out).mono ?_); rintro e w2 ⟨rfl, ⟨nd2, rfl⟩⟩)
            | (at_builtin; refine print_append_str (w0 := w1) w1.heap.size rfl (.tmp 51) _ 87 9 5 rfl Tryd.underlying87 Tryd.underlying9 infoByte _ ((l.take i).flatMap (rr true)) ⟨#[38, 103, 116, 59]⟩ rfl rfl (by exact HO.out) (by exact bl_drewN HB.out _) (by exact hwz) (by have h6 : (⟨#[38, 103, 116, 59]⟩ : ByteArray).size ≤ 6 := (by decide); omega) ?_; intro v3 w3 ho3 hb3 hg3; have HO3 := Aside0.mk ho3; have HB3 := Aside0.mk hb3; have HG3 := Aside0.mk hg3; clear ho3 hb3 hg3))
          go_roundg (l.length - (i + 1))
          case measure => have := HK.out; omega
          case rel => exact ⟨i + 1, by go_num, ⟨rfl, by omega, HAT.out HXC.out⟩, ⟨by rw [HFT.out, HKK.out]; exact HO3.out⟩, ⟨HB3.out⟩⟩
        by_cases k13 : c0 = 13
        · have hk : rr true c0 = bytesOf ⟨#[38, 35, 49, 51, 59]⟩ := by subst k13; rfl
          have HKK := Aside0.mk hk
          clear hk
          have c38 : (c0 == 38) = false := by simp; omega
          have c60 : (c0 == 60) = false := by simp; omega
          have c62 : (c0 == 62) = false := by simp; omega
          have c13 : (c0 == 13) = true := by simp; omega
          have c34 : (c0 == 34) = false := by simp; omega
          have c9 : (c0 == 9) = false := by simp; omega
          have c10 : (c0 == 10) = false := by simp; omega
          clear k38 k60 k62 k13
          go_wp2_with (first
            | (go_at_call 61; (with_reducible refine (emendref1_XML.calls c0 true _ HXF.out).mono ?_); rintro e w2 ⟨rfl, ⟨nd2, rfl⟩⟩)
            | (at_builtin; refine print_append_str (w0 := w1) w1.heap.size rfl (.tmp 56) _ 87 9 5 rfl Tryd.underlying87 Tryd.underlying9 infoByte _ ((l.take i).flatMap (rr true)) ⟨#[38, 35, 49, 51, 59]⟩ rfl rfl (by exact HO.out) (by exact bl_drewN HB.out _) (by exact hwz) (by have h6 : (⟨#[38, 35, 49, 51, 59]⟩ : ByteArray).size ≤ 6 := (by decide); omega) ?_; intro v3 w3 ho3 hb3 hg3; have HO3 := Aside0.mk ho3; have HB3 := Aside0.mk hb3; have HG3 := Aside0.mk hg3; clear ho3 hb3 hg3))
          go_roundg (l.length - (i + 1))
          case measure => have := HK.out; omega
          case rel => exact ⟨i + 1, by go_num, ⟨rfl, by omega, HAT.out HXC.out⟩, ⟨by rw [HFT.out, HKK.out]; exact HO3.out⟩, ⟨HB3.out⟩⟩
        by_cases k34 : c0 = 34
        · have hk : rr true c0 = bytesOf ⟨#[38, 113, 117, 111, 116, 59]⟩ := by subst k34; rfl
          have HKK := Aside0.mk hk
          clear hk
          have c38 : (c0 == 38) = false := by simp; omega
          have c60 : (c0 == 60) = false := by simp; omega
          have c62 : (c0 == 62) = false := by simp; omega
          have c13 : (c0 == 13) = false := by simp; omega
          have c34 : (c0 == 34) = true := by simp; omega
          have c9 : (c0 == 9) = false := by simp; omega
          have c10 : (c0 == 10) = false := by simp; omega
          clear k38 k60 k62 k13 k34
          go_wp2_with (first
            | (go_at_call 61; (with_reducible refine (emendref1_XML.calls c0 true _ HXF.out).mono ?_); rintro e w2 ⟨rfl, ⟨nd2, rfl⟩⟩)
            | (at_builtin; refine print_append_str (w0 := w1) w1.heap.size rfl (.tmp 64) _ 87 9 5 rfl Tryd.underlying87 Tryd.underlying9 infoByte _ ((l.take i).flatMap (rr true)) ⟨#[38, 113, 117, 111, 116, 59]⟩ rfl rfl (by exact HO.out) (by exact bl_drewN HB.out _) (by exact hwz) (by have h6 : (⟨#[38, 113, 117, 111, 116, 59]⟩ : ByteArray).size ≤ 6 := (by decide); omega) ?_; intro v3 w3 ho3 hb3 hg3; have HO3 := Aside0.mk ho3; have HB3 := Aside0.mk hb3; have HG3 := Aside0.mk hg3; clear ho3 hb3 hg3))
          go_roundg (l.length - (i + 1))
          case measure => have := HK.out; omega
          case rel => exact ⟨i + 1, by go_num, ⟨rfl, by omega, HAT.out HXC.out⟩, ⟨by rw [HFT.out, HKK.out]; exact HO3.out⟩, ⟨HB3.out⟩⟩
        by_cases k9 : c0 = 9
        · have hk : rr true c0 = bytesOf ⟨#[38, 35, 57, 59]⟩ := by subst k9; rfl
          have HKK := Aside0.mk hk
          clear hk
          have c38 : (c0 == 38) = false := by simp; omega
          have c60 : (c0 == 60) = false := by simp; omega
          have c62 : (c0 == 62) = false := by simp; omega
          have c13 : (c0 == 13) = false := by simp; omega
          have c34 : (c0 == 34) = false := by simp; omega
          have c9 : (c0 == 9) = true := by simp; omega
          have c10 : (c0 == 10) = false := by simp; omega
          clear k38 k60 k62 k13 k34 k9
          go_wp2_with (first
            | (go_at_call 61; (with_reducible refine (emendref1_XML.calls c0 true _ HXF.out).mono ?_); rintro e w2 ⟨rfl, ⟨nd2, rfl⟩⟩)
            | (at_builtin; refine print_append_str (w0 := w1) w1.heap.size rfl (.tmp 72) _ 87 9 5 rfl Tryd.underlying87 Tryd.underlying9 infoByte _ ((l.take i).flatMap (rr true)) ⟨#[38, 35, 57, 59]⟩ rfl rfl (by exact HO.out) (by exact bl_drewN HB.out _) (by exact hwz) (by have h6 : (⟨#[38, 35, 57, 59]⟩ : ByteArray).size ≤ 6 := (by decide); omega) ?_; intro v3 w3 ho3 hb3 hg3; have HO3 := Aside0.mk ho3; have HB3 := Aside0.mk hb3; have HG3 := Aside0.mk hg3; clear ho3 hb3 hg3))
          go_roundg (l.length - (i + 1))
          case measure => have := HK.out; omega
          case rel => exact ⟨i + 1, by go_num, ⟨rfl, by omega, HAT.out HXC.out⟩, ⟨by rw [HFT.out, HKK.out]; exact HO3.out⟩, ⟨HB3.out⟩⟩
        by_cases k10 : c0 = 10
        · have hk : rr true c0 = bytesOf ⟨#[38, 35, 49, 48, 59]⟩ := by subst k10; rfl
          have HKK := Aside0.mk hk
          clear hk
          have c38 : (c0 == 38) = false := by simp; omega
          have c60 : (c0 == 60) = false := by simp; omega
          have c62 : (c0 == 62) = false := by simp; omega
          have c13 : (c0 == 13) = false := by simp; omega
          have c34 : (c0 == 34) = false := by simp; omega
          have c9 : (c0 == 9) = false := by simp; omega
          have c10 : (c0 == 10) = true := by simp; omega
          clear k38 k60 k62 k13 k34 k9 k10
          go_wp2_with (first
            | (go_at_call 61; (with_reducible refine (emendref1_XML.calls c0 true _ HXF.out).mono ?_); rintro e w2 ⟨rfl, ⟨nd2, rfl⟩⟩)
            | (at_builtin; refine print_append_str (w0 := w1) w1.heap.size rfl (.tmp 80) _ 87 9 5 rfl Tryd.underlying87 Tryd.underlying9 infoByte _ ((l.take i).flatMap (rr true)) ⟨#[38, 35, 49, 48, 59]⟩ rfl rfl (by exact HO.out) (by exact bl_drewN HB.out _) (by exact hwz) (by have h6 : (⟨#[38, 35, 49, 48, 59]⟩ : ByteArray).size ≤ 6 := (by decide); omega) ?_; intro v3 w3 ho3 hb3 hg3; have HO3 := Aside0.mk ho3; have HB3 := Aside0.mk hb3; have HG3 := Aside0.mk hg3; clear ho3 hb3 hg3))
          go_roundg (l.length - (i + 1))
          case measure => have := HK.out; omega
          case rel => exact ⟨i + 1, by go_num, ⟨rfl, by omega, HAT.out HXC.out⟩, ⟨by rw [HFT.out, HKK.out]; exact HO3.out⟩, ⟨HB3.out⟩⟩
        have hk : rr true c0 = encI c0 := by unfold rr refB; simp [k38, k60, k62, k13, k34, k9, k10]; exact fun h => absurd rfl h
        have HKK := Aside0.mk hk
        clear hk
        have c38 : (c0 == 38) = false := by simp; omega
        have c60 : (c0 == 60) = false := by simp; omega
        have c62 : (c0 == 62) = false := by simp; omega
        have c13 : (c0 == 13) = false := by simp; omega
        have c34 : (c0 == 34) = false := by simp; omega
        have c9 : (c0 == 9) = false := by simp; omega
        have c10 : (c0 == 10) = false := by simp; omega
        clear k38 k60 k62 k13 k34 k9 k10
        go_wp2_with (first
          | (go_at_call 61; (with_reducible refine (emendref1_XML.calls c0 true _ HXF.out).mono ?_); rintro e w2 ⟨rfl, ⟨nd2, rfl⟩⟩)
          | (go_at_call 59; (with_reducible refine (emendref1_Byte.calls c0 (strOfNums (encI c0)) _ (byte_f c0 HCH.out)).mono ?_); rintro e w2 ⟨rfl, hb2⟩; have HB2 := Aside0.mk hb2; have hw2 := hb2.size; clear hb2)
          | (at_builtin; refine print_append_str (w0 := w1) w1.heap.size rfl (.tmp 30) _ 87 9 5 rfl Tryd.underlying87 Tryd.underlying9 infoByte _ ((l.take i).flatMap (rr true)) (strOfNums (encI c0)) rfl rfl (by exact owns_below (w := wr.drewN _) (by exact HO.out) HB2.out) (by exact (bl_trans (bl_drewN HB.out _) HB2.out)) (by exact Nat.le_trans hwz hw2) (by rw [str_size]; have := encI_length c0; omega) ?_; intro v3 w3 ho3 hb3 hg3; have HO3 := Aside0.mk ho3; have HB3 := Aside0.mk hb3; have HG3 := Aside0.mk hg3; clear ho3 hb3 hg3))
        go_roundg (l.length - (i + 1))
        case measure => have := HK.out; omega
        case rel => exact ⟨i + 1, by go_num, ⟨rfl, by omega, HAT.out HXC.out⟩, ⟨by rw [HFT.out, HKK.out]; have := HO3.out; rw [bytesOf_str _ (encI_bytes c0 HCH.out)] at this; exact this⟩, ⟨HB3.out⟩⟩
      · have hxn : xmlB c0 = false := by simpa using hxc
        rw [hxn] at hxf
        have HXF := Aside0.mk hxf
        have HXN := Aside0.mk hxn
        clear hxf hxc hxn
        go_wp2_with (first
          | (go_at_call 61; (with_reducible refine (emendref1_XML.calls c0 false _ HXF.out).mono ?_); rintro e w2 ⟨rfl, ⟨nd2, rfl⟩⟩))
        go_ret2
        have h1 := HX.out
        unfold escS at h1
        rw [if_pos (HBY.out HXN.out)] at h1
        exact ⟨by rw [← h1]; rfl, bl_trans HB1.out (bl_drewN HB.out _)⟩
    · have hi : i = l.length := by omega
      subst hi
      have htk : l.take l.length = l := List.take_length
      have hO := HO.out
      have hia := HIA.out
      rw [htk] at hO hia
      have hstr := own_string (src := 87) (dst := 9) (e := 5) Tryd.underlying87 Tryd.underlying5 Tryd.underlying9 hO
      have HIA2 := Aside0.mk hia
      have q1 : ((l.length : Int) < (l.length : Int)) = False := eq_false (by omega)
      clear htk hO hia hlt
      go_wp2
      go_ret2
      have h1 := HX.out
      unfold escS at h1
      rw [if_neg (by rw [badX_no l 0 HIA2.out]; decide)] at h1
      have h2 : X = (l.flatMap (rr true), 0) := by rw [← h1, HENC.out, ← rr_flat true l HALL.out]
      exact ⟨by rw [h2]; rfl, bl_trans HB1.out HB.out⟩

set_option maxHeartbeats 8000000 in
set_option maxRecDepth 100000 in
theorem rescape_false (s : ByteArray) (l : List Int) (w : World) (hs : s.size ≤ 2000000) (h : Scan s 0 l none) :
    Calls Tryd.prog 37 #[.string s, .bool false] w fun e w' => e = .returned (.tuple #[.string (strOfNums (escS false s l none).1), .int .i64 (escS false s l none).2]) ∧ Below w.heap.size w w' := by
  have hmk := print_make (P := Tryd.prog) 87 5 .u8 1 Tryd.underlying87 infoByte (by decide) 0 (by decide)
  rw [show ((0 : Nat) : Int) = 0 from rfl] at hmk
  have hll := scan_bytes h
  have hlen := (encs_len l).1
  have hsz : (encs l).length = s.size := by rw [← hll.2, bytesOf_length]
  have HALL := Aside0.mk hll.1
  have HENC := Aside0.mk hll.2
  have HH := Aside0.mk h
  obtain ⟨X, hX⟩ : ∃ X, escS false s l none = X := ⟨_, rfl⟩
  rw [hX]
  have HX := Aside0.mk hX
  clear h hll hX
  go_enter Tryd.func37, Tryd.ntmps37
  go_wp2_with (first
    | (go_at_call 25; (with_reducible refine (rrunes_any s l none _ (by omega) HH.out l 0 0 rfl).mono ?_); rintro e w1 ⟨A, c, rfl, hc, hr, hb1⟩; have HB1 := Aside0.mk hb1; have HR1 := Aside0.mk hr; have HC1 := Aside0.mk hc; clear hb1 hr hc))
  clear hmk
  go_loopg [8, 9] l.length (fun kq v8 v9 w' => ∃ i : Nat, v9 = .int .i64 i ∧ Aside0 (kq = l.length - i ∧ i ≤ l.length ∧ (l.take i).all xmlB = true) ∧ Aside0 (w'.ownsRow w1.heap.size 5 1 v8 ((l.take i).flatMap (rr false)).length (nums .u8 ((l.take i).flatMap (rr false)))) ∧ Aside0 (Below w1.heap.size w1 w'))
  case atStart => exact ⟨0, rfl, ⟨rfl, Nat.zero_le _, rfl⟩, ⟨by have h := own_made (w1.alloc (.cells #[.int .i64 0, .int .i64 0] 46)) w1.heap.size 5 .u8 0 (by simp) (by decide); rw [World.size_alloc] at h; exact h⟩, ⟨bl_alloc (bl_alloc (Below.refl _ _) _) _⟩⟩
  case round =>
    obtain ⟨i, rfl, HI, HO, HB⟩ := hrel
    have HC := Aside0.mk (Kd.C_below HR1.out HB.out)
    obtain ⟨hk, hi0, hia⟩ := HI.out
    have HK := Aside0.mk hk
    have HIA := Aside0.mk hia
    have hwz := HB.out.size
    have hql := rr_lens false (l.take i)
    have htl : (l.take i).length ≤ i := List.length_take_le _ _
    clear HI hk hia
    by_cases hlt : i < l.length
    · have hx := Kd.at_int HC.out (i : Int) (by omega) (by omega)
      obtain ⟨ad, rfl, hx⟩ := hx
      have hrd : rd l (i : Int) = l[i] := by simp [rd, List.getD_eq_getElem?_getD, List.getElem?_eq_getElem hlt]
      rw [Int.toNat_natCast, hrd] at hx
      have hft := flat_take (rr false) l i hlt
      have hat := all_take_xml l i hlt HIA.out
      have hby := badX_yes l 0 i hlt
      have hch := List.all_eq_true.1 HALL.out l[i] (List.getElem_mem hlt)
      obtain ⟨c0, hc0⟩ : ∃ c0, l[i] = c0 := ⟨_, rfl⟩
      rw [hc0] at hx hft hat hby hch
      have p1 : (0 : Int) ≤ (i : Int) := by omega
      have q1 : ((i : Int) < (l.length : Int)) = True := eq_true (by omega)
      have hxf := rxml_f c0
      have HFT := Aside0.mk hft
      have HAT := Aside0.mk hat
      have HBY := Aside0.mk hby
      have HCH := Aside0.mk hch
      clear hft hat hby hch hrd hc0
      by_cases hxc : xmlB c0 = true
      · rw [hxc] at hxf
        have HXF := Aside0.mk hxf
        have HXC := Aside0.mk hxc
        clear hxf hxc
        by_cases k38 : c0 = 38
        · have hk : rr false c0 = bytesOf ⟨#[38, 97, 109, 112, 59]⟩ := by subst k38; rfl
          have HKK := Aside0.mk hk
          clear hk
          have c38 : (c0 == 38) = true := by simp; omega
          have c60 : (c0 == 60) = false := by simp; omega
          have c62 : (c0 == 62) = false := by simp; omega
          have c13 : (c0 == 13) = false := by simp; omega
          have c34 : (c0 == 34) = false := by simp; omega
          have c9 : (c0 == 9) = false := by simp; omega
          have c10 : (c0 == 10) = false := by simp; omega
          clear k38
          go_wp2_with (first
            | (go_at_call 61; (with_reducible refine (emendref1_XML.calls c0 true _ HXF.out).mono ?_); rintro e w2 ⟨rfl, ⟨nd2, rfl⟩⟩)
            | (at_builtin; refine print_append_str (w0 := w1) w1.heap.size rfl (.tmp 41) _ 87 9 5 rfl Tryd.underlying87 Tryd.underlying9 infoByte _ ((l.take i).flatMap (rr false)) ⟨#[38, 97, 109, 112, 59]⟩ rfl rfl (by exact HO.out) (by exact bl_drewN HB.out _) (by exact hwz) (by have h6 : (⟨#[38, 97, 109, 112, 59]⟩ : ByteArray).size ≤ 6 := (by decide); omega) ?_; intro v3 w3 ho3 hb3 hg3; have HO3 := Aside0.mk ho3; have HB3 := Aside0.mk hb3; have HG3 := Aside0.mk hg3; clear ho3 hb3 hg3))
          go_roundg (l.length - (i + 1))
          case measure => have := HK.out; omega
          case rel => exact ⟨i + 1, by go_num, ⟨rfl, by omega, HAT.out HXC.out⟩, ⟨by rw [HFT.out, HKK.out]; exact HO3.out⟩, ⟨HB3.out⟩⟩
        by_cases k60 : c0 = 60
        · have hk : rr false c0 = bytesOf ⟨#[38, 108, 116, 59]⟩ := by subst k60; rfl
          have HKK := Aside0.mk hk
          clear hk
          have c38 : (c0 == 38) = false := by simp; omega
          have c60 : (c0 == 60) = true := by simp; omega
          have c62 : (c0 == 62) = false := by simp; omega
          have c13 : (c0 == 13) = false := by simp; omega
          have c34 : (c0 == 34) = false := by simp; omega
          have c9 : (c0 == 9) = false := by simp; omega
          have c10 : (c0 == 10) = false := by simp; omega
          clear k38 k60
          go_wp2_with (first
            | (go_at_call 61; (with_reducible refine (emendref1_XML.calls c0 true _ HXF.out).mono ?_); rintro e w2 ⟨rfl, ⟨nd2, rfl⟩⟩)
            | (at_builtin; refine print_append_str (w0 := w1) w1.heap.size rfl (.tmp 46) _ 87 9 5 rfl Tryd.underlying87 Tryd.underlying9 infoByte _ ((l.take i).flatMap (rr false)) ⟨#[38, 108, 116, 59]⟩ rfl rfl (by exact HO.out) (by exact bl_drewN HB.out _) (by exact hwz) (by have h6 : (⟨#[38, 108, 116, 59]⟩ : ByteArray).size ≤ 6 := (by decide); omega) ?_; intro v3 w3 ho3 hb3 hg3; have HO3 := Aside0.mk ho3; have HB3 := Aside0.mk hb3; have HG3 := Aside0.mk hg3; clear ho3 hb3 hg3))
          go_roundg (l.length - (i + 1))
          case measure => have := HK.out; omega
          case rel => exact ⟨i + 1, by go_num, ⟨rfl, by omega, HAT.out HXC.out⟩, ⟨by rw [HFT.out, HKK.out]; exact HO3.out⟩, ⟨HB3.out⟩⟩
        by_cases k62 : c0 = 62
        · have hk : rr false c0 = bytesOf ⟨#[38, 103, 116, 59]⟩ := by subst k62; rfl
          have HKK := Aside0.mk hk
          clear hk
          have c38 : (c0 == 38) = false := by simp; omega
          have c60 : (c0 == 60) = false := by simp; omega
          have c62 : (c0 == 62) = true := by simp; omega
          have c13 : (c0 == 13) = false := by simp; omega
          have c34 : (c0 == 34) = false := by simp; omega
          have c9 : (c0 == 9) = false := by simp; omega
          have c10 : (c0 == 10) = false := by simp; omega
          clear k38 k60 k62
          go_wp2_with (first
            | (go_at_call 61; (with_reducible refine (emendref1_XML.calls c0 true _ HXF.out).mono ?_); rintro e w2 ⟨rfl, ⟨nd2, rfl⟩⟩)
            | (at_builtin; refine print_append_str (w0 := w1) w1.heap.size rfl (.tmp 51) _ 87 9 5 rfl Tryd.underlying87 Tryd.underlying9 infoByte _ ((l.take i).flatMap (rr false)) ⟨#[38, 103, 116, 59]⟩ rfl rfl (by exact HO.out) (by exact bl_drewN HB.out _) (by exact hwz) (by have h6 : (⟨#[38, 103, 116, 59]⟩ : ByteArray).size ≤ 6 := (by decide); omega) ?_; intro v3 w3 ho3 hb3 hg3; have HO3 := Aside0.mk ho3; have HB3 := Aside0.mk hb3; have HG3 := Aside0.mk hg3; clear ho3 hb3 hg3))
          go_roundg (l.length - (i + 1))
          case measure => have := HK.out; omega
          case rel => exact ⟨i + 1, by go_num, ⟨rfl, by omega, HAT.out HXC.out⟩, ⟨by rw [HFT.out, HKK.out]; exact HO3.out⟩, ⟨HB3.out⟩⟩
        by_cases k13 : c0 = 13
        · have hk : rr false c0 = bytesOf ⟨#[38, 35, 49, 51, 59]⟩ := by subst k13; rfl
          have HKK := Aside0.mk hk
          clear hk
          have c38 : (c0 == 38) = false := by simp; omega
          have c60 : (c0 == 60) = false := by simp; omega
          have c62 : (c0 == 62) = false := by simp; omega
          have c13 : (c0 == 13) = true := by simp; omega
          have c34 : (c0 == 34) = false := by simp; omega
          have c9 : (c0 == 9) = false := by simp; omega
          have c10 : (c0 == 10) = false := by simp; omega
          clear k38 k60 k62 k13
          go_wp2_with (first
            | (go_at_call 61; (with_reducible refine (emendref1_XML.calls c0 true _ HXF.out).mono ?_); rintro e w2 ⟨rfl, ⟨nd2, rfl⟩⟩)
            | (at_builtin; refine print_append_str (w0 := w1) w1.heap.size rfl (.tmp 56) _ 87 9 5 rfl Tryd.underlying87 Tryd.underlying9 infoByte _ ((l.take i).flatMap (rr false)) ⟨#[38, 35, 49, 51, 59]⟩ rfl rfl (by exact HO.out) (by exact bl_drewN HB.out _) (by exact hwz) (by have h6 : (⟨#[38, 35, 49, 51, 59]⟩ : ByteArray).size ≤ 6 := (by decide); omega) ?_; intro v3 w3 ho3 hb3 hg3; have HO3 := Aside0.mk ho3; have HB3 := Aside0.mk hb3; have HG3 := Aside0.mk hg3; clear ho3 hb3 hg3))
          go_roundg (l.length - (i + 1))
          case measure => have := HK.out; omega
          case rel => exact ⟨i + 1, by go_num, ⟨rfl, by omega, HAT.out HXC.out⟩, ⟨by rw [HFT.out, HKK.out]; exact HO3.out⟩, ⟨HB3.out⟩⟩
        by_cases k34 : c0 = 34
        · have hk : rr false c0 = encI c0 := by subst k34; rfl
          have HKK := Aside0.mk hk
          clear hk
          have c38 : (c0 == 38) = false := by simp; omega
          have c60 : (c0 == 60) = false := by simp; omega
          have c62 : (c0 == 62) = false := by simp; omega
          have c13 : (c0 == 13) = false := by simp; omega
          have c34 : (c0 == 34) = true := by simp; omega
          have c9 : (c0 == 9) = false := by simp; omega
          have c10 : (c0 == 10) = false := by simp; omega
          clear k38 k60 k62 k13 k34
          go_wp2_with (first
            | (go_at_call 61; (with_reducible refine (emendref1_XML.calls c0 true _ HXF.out).mono ?_); rintro e w2 ⟨rfl, ⟨nd2, rfl⟩⟩)
            | (go_at_call 59; (with_reducible refine (emendref1_Byte.calls c0 (strOfNums (encI c0)) _ (byte_f c0 HCH.out)).mono ?_); rintro e w2 ⟨rfl, hb2⟩; have HB2 := Aside0.mk hb2; have hw2 := hb2.size; clear hb2)
            | (at_builtin; refine print_append_str (w0 := w1) w1.heap.size rfl (.tmp 30) _ 87 9 5 rfl Tryd.underlying87 Tryd.underlying9 infoByte _ ((l.take i).flatMap (rr false)) (strOfNums (encI c0)) rfl rfl (by exact owns_below (w := wr.drewN _) (by exact HO.out) HB2.out) (by exact (bl_trans (bl_drewN HB.out _) HB2.out)) (by exact Nat.le_trans hwz hw2) (by rw [str_size]; have := encI_length c0; omega) ?_; intro v3 w3 ho3 hb3 hg3; have HO3 := Aside0.mk ho3; have HB3 := Aside0.mk hb3; have HG3 := Aside0.mk hg3; clear ho3 hb3 hg3))
          go_roundg (l.length - (i + 1))
          case measure => have := HK.out; omega
          case rel => exact ⟨i + 1, by go_num, ⟨rfl, by omega, HAT.out HXC.out⟩, ⟨by rw [HFT.out, HKK.out]; have := HO3.out; rw [bytesOf_str _ (encI_bytes c0 HCH.out)] at this; exact this⟩, ⟨HB3.out⟩⟩
        by_cases k9 : c0 = 9
        · have hk : rr false c0 = encI c0 := by subst k9; rfl
          have HKK := Aside0.mk hk
          clear hk
          have c38 : (c0 == 38) = false := by simp; omega
          have c60 : (c0 == 60) = false := by simp; omega
          have c62 : (c0 == 62) = false := by simp; omega
          have c13 : (c0 == 13) = false := by simp; omega
          have c34 : (c0 == 34) = false := by simp; omega
          have c9 : (c0 == 9) = true := by simp; omega
          have c10 : (c0 == 10) = false := by simp; omega
          clear k38 k60 k62 k13 k34 k9
          go_wp2_with (first
            | (go_at_call 61; (with_reducible refine (emendref1_XML.calls c0 true _ HXF.out).mono ?_); rintro e w2 ⟨rfl, ⟨nd2, rfl⟩⟩)
            | (go_at_call 59; (with_reducible refine (emendref1_Byte.calls c0 (strOfNums (encI c0)) _ (byte_f c0 HCH.out)).mono ?_); rintro e w2 ⟨rfl, hb2⟩; have HB2 := Aside0.mk hb2; have hw2 := hb2.size; clear hb2)
            | (at_builtin; refine print_append_str (w0 := w1) w1.heap.size rfl (.tmp 30) _ 87 9 5 rfl Tryd.underlying87 Tryd.underlying9 infoByte _ ((l.take i).flatMap (rr false)) (strOfNums (encI c0)) rfl rfl (by exact owns_below (w := wr.drewN _) (by exact HO.out) HB2.out) (by exact (bl_trans (bl_drewN HB.out _) HB2.out)) (by exact Nat.le_trans hwz hw2) (by rw [str_size]; have := encI_length c0; omega) ?_; intro v3 w3 ho3 hb3 hg3; have HO3 := Aside0.mk ho3; have HB3 := Aside0.mk hb3; have HG3 := Aside0.mk hg3; clear ho3 hb3 hg3))
          go_roundg (l.length - (i + 1))
          case measure => have := HK.out; omega
          case rel => exact ⟨i + 1, by go_num, ⟨rfl, by omega, HAT.out HXC.out⟩, ⟨by rw [HFT.out, HKK.out]; have := HO3.out; rw [bytesOf_str _ (encI_bytes c0 HCH.out)] at this; exact this⟩, ⟨HB3.out⟩⟩
        by_cases k10 : c0 = 10
        · have hk : rr false c0 = encI c0 := by subst k10; rfl
          have HKK := Aside0.mk hk
          clear hk
          have c38 : (c0 == 38) = false := by simp; omega
          have c60 : (c0 == 60) = false := by simp; omega
          have c62 : (c0 == 62) = false := by simp; omega
          have c13 : (c0 == 13) = false := by simp; omega
          have c34 : (c0 == 34) = false := by simp; omega
          have c9 : (c0 == 9) = false := by simp; omega
          have c10 : (c0 == 10) = true := by simp; omega
          clear k38 k60 k62 k13 k34 k9 k10
          go_wp2_with (first
            | (go_at_call 61; (with_reducible refine (emendref1_XML.calls c0 true _ HXF.out).mono ?_); rintro e w2 ⟨rfl, ⟨nd2, rfl⟩⟩)
            | (go_at_call 59; (with_reducible refine (emendref1_Byte.calls c0 (strOfNums (encI c0)) _ (byte_f c0 HCH.out)).mono ?_); rintro e w2 ⟨rfl, hb2⟩; have HB2 := Aside0.mk hb2; have hw2 := hb2.size; clear hb2)
            | (at_builtin; refine print_append_str (w0 := w1) w1.heap.size rfl (.tmp 30) _ 87 9 5 rfl Tryd.underlying87 Tryd.underlying9 infoByte _ ((l.take i).flatMap (rr false)) (strOfNums (encI c0)) rfl rfl (by exact owns_below (w := wr.drewN _) (by exact HO.out) HB2.out) (by exact (bl_trans (bl_drewN HB.out _) HB2.out)) (by exact Nat.le_trans hwz hw2) (by rw [str_size]; have := encI_length c0; omega) ?_; intro v3 w3 ho3 hb3 hg3; have HO3 := Aside0.mk ho3; have HB3 := Aside0.mk hb3; have HG3 := Aside0.mk hg3; clear ho3 hb3 hg3))
          go_roundg (l.length - (i + 1))
          case measure => have := HK.out; omega
          case rel => exact ⟨i + 1, by go_num, ⟨rfl, by omega, HAT.out HXC.out⟩, ⟨by rw [HFT.out, HKK.out]; have := HO3.out; rw [bytesOf_str _ (encI_bytes c0 HCH.out)] at this; exact this⟩, ⟨HB3.out⟩⟩
        have hk : rr false c0 = encI c0 := by unfold rr refB; simp [k38, k60, k62, k13, k34, k9, k10]; exact fun h => absurd rfl h
        have HKK := Aside0.mk hk
        clear hk
        have c38 : (c0 == 38) = false := by simp; omega
        have c60 : (c0 == 60) = false := by simp; omega
        have c62 : (c0 == 62) = false := by simp; omega
        have c13 : (c0 == 13) = false := by simp; omega
        have c34 : (c0 == 34) = false := by simp; omega
        have c9 : (c0 == 9) = false := by simp; omega
        have c10 : (c0 == 10) = false := by simp; omega
        clear k38 k60 k62 k13 k34 k9 k10
        go_wp2_with (first
          | (go_at_call 61; (with_reducible refine (emendref1_XML.calls c0 true _ HXF.out).mono ?_); rintro e w2 ⟨rfl, ⟨nd2, rfl⟩⟩)
          | (go_at_call 59; (with_reducible refine (emendref1_Byte.calls c0 (strOfNums (encI c0)) _ (byte_f c0 HCH.out)).mono ?_); rintro e w2 ⟨rfl, hb2⟩; have HB2 := Aside0.mk hb2; have hw2 := hb2.size; clear hb2)
          | (at_builtin; refine print_append_str (w0 := w1) w1.heap.size rfl (.tmp 30) _ 87 9 5 rfl Tryd.underlying87 Tryd.underlying9 infoByte _ ((l.take i).flatMap (rr false)) (strOfNums (encI c0)) rfl rfl (by exact owns_below (w := wr.drewN _) (by exact HO.out) HB2.out) (by exact (bl_trans (bl_drewN HB.out _) HB2.out)) (by exact Nat.le_trans hwz hw2) (by rw [str_size]; have := encI_length c0; omega) ?_; intro v3 w3 ho3 hb3 hg3; have HO3 := Aside0.mk ho3; have HB3 := Aside0.mk hb3; have HG3 := Aside0.mk hg3; clear ho3 hb3 hg3))
        go_roundg (l.length - (i + 1))
        case measure => have := HK.out; omega
        case rel => exact ⟨i + 1, by go_num, ⟨rfl, by omega, HAT.out HXC.out⟩, ⟨by rw [HFT.out, HKK.out]; have := HO3.out; rw [bytesOf_str _ (encI_bytes c0 HCH.out)] at this; exact this⟩, ⟨HB3.out⟩⟩
      · have hxn : xmlB c0 = false := by simpa using hxc
        rw [hxn] at hxf
        have HXF := Aside0.mk hxf
        have HXN := Aside0.mk hxn
        clear hxf hxc hxn
        go_wp2_with (first
          | (go_at_call 61; (with_reducible refine (emendref1_XML.calls c0 false _ HXF.out).mono ?_); rintro e w2 ⟨rfl, ⟨nd2, rfl⟩⟩))
        go_ret2
        have h1 := HX.out
        unfold escS at h1
        rw [if_pos (HBY.out HXN.out)] at h1
        exact ⟨by rw [← h1]; rfl, bl_trans HB1.out (bl_drewN HB.out _)⟩
    · have hi : i = l.length := by omega
      subst hi
      have htk : l.take l.length = l := List.take_length
      have hO := HO.out
      have hia := HIA.out
      rw [htk] at hO hia
      have hstr := own_string (src := 87) (dst := 9) (e := 5) Tryd.underlying87 Tryd.underlying5 Tryd.underlying9 hO
      have HIA2 := Aside0.mk hia
      have q1 : ((l.length : Int) < (l.length : Int)) = False := eq_false (by omega)
      clear htk hO hia hlt
      go_wp2
      go_ret2
      have h1 := HX.out
      unfold escS at h1
      rw [if_neg (by rw [badX_no l 0 HIA2.out]; decide)] at h1
      have h2 : X = (l.flatMap (rr false), 0) := by rw [← h1, HENC.out, ← rr_flat false l HALL.out]
      exact ⟨by rw [h2]; rfl, bl_trans HB1.out HB.out⟩

/-- The reference's Escape answers what text.Escape answers. -/
theorem rescape_any (attr : Bool) (s : ByteArray) (l : List Int) (er : Option Nat) (w : World) (hs : s.size ≤ 2000000) (h : Scan s 0 l er) (x : ByteArray) (n : Int) (hx : strOfNums (escS attr s l er).1 = x) (hn : (escS attr s l er).2 = n) :
    Calls Tryd.prog 37 #[.string s, .bool attr] w fun e w' => e = .returned (.tuple #[.string x, .int .i64 n]) ∧ Below w.heap.size w w' := by
  subst hx hn
  cases er with
  | some a => exact rescape_bad attr s l a w (by omega) h
  | none =>
    cases attr with
    | true => exact rescape_true s l w hs h
    | false => exact rescape_false s l w hs h
end Go.Proofs.YtgdfgahpjebcaaaDoor
