/-
  emendlaw1.TextBack, walked. PRINTED by gen_back.py.
-/
import Derived.Test.YtgdfgahpjebcaaaDoorBkx
import Derived.Test.YtgdfgahpjebcaaaDoorJnw
set_option linter.unusedSimpArgs false
set_option linter.unusedVariables false
namespace Go.Proofs.YtgdfgahpjebcaaaDoor
open Go.RowKit Go.Proofs.YtgdfgahpjebcaaaDoorW.PrintWords Go.Proofs.YtgdfgahpjebcaaaDoor.PT

/-- text.Unescape at any text. -/
theorem unescape_any (x : ByteArray) (w : World) (hs : x.size ≤ 17592186000000) : Calls Tryd.prog 22 #[.string x] w fun e w' => ∃ u v, e = .returned (.tuple #[u, v]) ∧ Below w.heap.size w w' := by
  obtain ⟨l, er, h⟩ := scan_exists x _ 0 (Nat.zero_le _) rfl
  have hk : Calls Tryd.prog 22 #[.string x] w (SPost (uneI x er) w) := by
    cases er with
    | some a => exact unescape_bad x l a w (by omega) h
    | none => exact unescape_ok x l w hs h
  refine hk.mono fun e w' hp => ?_
  rcases hp with ⟨_, he, hb⟩ | ⟨_, g, he, _, _, hb⟩
  · exact ⟨_, _, he, hb⟩
  · exact ⟨_, _, he, hb⟩
/-- Escape and Unescape of a text, both ways. -/
def EscBack (attr : Bool) (s x : ByteArray) (n : Int) : Prop :=
  (∀ w : World, Calls Tryd.prog 21 #[.string s, .bool attr] w fun e w' => e = .returned (.tuple #[.string x, .int .i64 n]) ∧ Below w.heap.size w w') ∧
  (n = 0 → ∀ w : World, Calls Tryd.prog 22 #[.string x] w fun e w' => e = .returned (.tuple #[.string s, .nilIface]) ∧ Below w.heap.size w w') ∧
  (∀ w : World, Calls Tryd.prog 22 #[.string x] w fun e w' => ∃ u v, e = .returned (.tuple #[u, v]) ∧ Below w.heap.size w w')
theorem esc_size (attr : Bool) (s : ByteArray) (l : List Int) : (strOfNums (escS attr s l none).1).size ≤ 6 * s.size := by
  rw [str_size]
  unfold escS
  by_cases hb : 0 ≤ badX 0 l
  · rw [if_pos hb]; simp
  · rw [if_neg hb]
    have := ebs_length attr (bytesOf s)
    rw [bytesOf_length] at this; exact this
theorem esc_back (attr : Bool) (s : ByteArray) (l : List Int) (hs : s.size ≤ 2000) (h : Scan s 0 l none) : ∃ x n, EscBack attr s x n := by
  have hz := esc_size attr s l
  refine ⟨strOfNums (escS attr s l none).1, (escS attr s l none).2, fun w => escape_any attr s l none w (by omega) h, fun h0 w => ?_, fun w => unescape_any _ w (by omega)⟩
  obtain ⟨h1, h2⟩ := une_escape attr h h0
  have := unescape_ok (strOfNums (escS attr s l none).1) _ w (by omega) h1
  rw [h2] at this
  refine this.mono fun e w' hp => ?_
  rcases hp with ⟨_, he, hb⟩ | ⟨hn, _⟩
  · rw [str_bytesOf] at he; exact ⟨he, hb⟩
  · exact absurd rfl hn
/-- Bytes of a text's characters. -/
theorem bytes_back (A : Option Addr) (c : Nat) (s : ByteArray) (l : List Int) (w : World) (hs : s.size ≤ 2000) (h : Scan s 0 l none) (hr : Kd.C (Kd.int .i64) w A l.length l) (hc : l.length ≤ c) :
    Calls Tryd.prog 15 #[.slice A l.length c] w fun e w' => e = .returned (.tuple #[.string s, .int .i64 0]) ∧ Below w.heap.size w w' := by
  have hl := scan_len h
  have k := bytes_any A c l w hr hc (by omega)
  obtain ⟨h1, h2⟩ := scan_bytes h
  have hb : bytesS l = (s, 0) := by unfold bytesS; rw [if_pos h1, ← h2, str_bytesOf]
  rw [hb] at k; exact k
/-- Unquote of a quoted text. -/
theorem quote_back (s : ByteArray) (l : List Int) (hs : s.size ≤ 2000) (h : Scan s 0 l none) (w : World) :
    Calls Tryd.prog 19 #[.string (strOfNums (quoteI (bytesOf s)))] w fun e w' => e = .returned (.tuple #[.string s, .nilIface]) ∧ Below w.heap.size w w' := by
  obtain ⟨h1, h2⟩ := unq_quote h
  have hz : (strOfNums (quoteI (bytesOf s))).size ≤ 17592186000000 := by
    rw [str_size]
    have := qbs_length (bytesOf s)
    rw [bytesOf_length] at this
    unfold quoteI
    rw [List.length_cons, List.length_append, List.length_singleton]
    omega
  have := unquote_ok _ _ w hz h1
  rw [h2] at this
  refine this.mono fun e w' hp => ?_
  rcases hp with ⟨_, he, hb⟩ | ⟨hn, _⟩
  · rw [str_bytesOf] at he; exact ⟨he, hb⟩
  · exact absurd rfl hn
theorem bytes_yes (A : Option Addr) (c : Nat) (l : List Int) (w : World) (hl : l.length ≤ 300) (hr : Kd.C (Kd.int .i64) w A l.length l) (hc : l.length ≤ c) (h : l.all charB = true) :
    Calls Tryd.prog 15 #[.slice A l.length c] w fun e w' => e = .returned (.tuple #[.string (strOfNums (encs l)), .int .i64 0]) ∧ Below w.heap.size w w' := by
  have k := bytes_any A c l w hr hc (by omega)
  have hb : bytesS l = (strOfNums (encs l), 0) := by unfold bytesS; rw [if_pos h]
  rw [hb] at k; exact k
theorem bytes_no (A : Option Addr) (c : Nat) (l : List Int) (w : World) (hl : l.length ≤ 300) (hr : Kd.C (Kd.int .i64) w A l.length l) (hc : l.length ≤ c) (h : l.all charB = false) :
    Calls Tryd.prog 15 #[.slice A l.length c] w fun e w' => e = .returned (.tuple #[.string ⟨#[]⟩, .int .i64 5]) ∧ Below w.heap.size w w' := by
  have k := bytes_any A c l w hr hc (by omega)
  have hb : bytesS l = (⟨#[]⟩, 5) := by unfold bytesS; rw [if_neg (by rw [h]; decide)]
  rw [hb] at k; exact k
theorem runes_str (l : List Int) (h : l.all charB = true) (hl : l.length ≤ 300) (w : World) :
    Calls Tryd.prog 12 #[.string (strOfNums (encs l))] w fun e w' => ∃ A, e = .returned (.tuple #[.slice A l.length l.length, .nilIface]) ∧ Kd.C (Kd.int .i64) w' A l.length l ∧ Below w.heap.size w w' := by
  have h1 := scan_str l h
  have hz : (strOfNums (encs l)).size ≤ 17592186000000 := by rw [str_size]; have := encs_len l; omega
  refine (runes_any _ l none w hz h1).mono fun e w' hp => ?_
  obtain ⟨_, A, he, hr, hb⟩ := Or.resolve_right hp (fun ⟨_, _, h, _⟩ => by cases h)
  exact ⟨A, he, hr, hb⟩
theorem few2 (s : ByteArray) (w : World) : Calls Tryd.prog 24 #[.string s, .int .i64 2000] w fun e w' => e = .returned (.string (fewI s 2000)) ∧ Drawn0 w w' := few_calls' s 2000 2000 rfl w


set_option maxHeartbeats 8000000 in
set_option maxRecDepth 100000 in
theorem back_ftt (s0 : ByteArray) (A0 : Option Addr) (c0 : Nat) (l0 l : List Int) (w : World) (he : Env w) (ls : List Int) (er : Option Nat) (hsc : Scan (fewI s0 2000) 0 ls er) (her : er = none) (hcm : c0 ≤ 9223372036854775807)
    (hlong : ¬ 300 < l0.length ∧ l = l0) (hl0 : l0.length ≤ c0) (hl : l.length ≤ 300) (hr : Kd.C (Kd.int .i64) w A0 l.length l) (hall : l.all charB = true) :
    Calls Tryd.prog 8 #[.string s0, .slice A0 l0.length c0] w fun e w' => e = .returned (.bool true) ∧ Below w.heap.size w w' := by
  have hsz := few_size s0 2000
  obtain ⟨s, hs⟩ : ∃ s, fewI s0 2000 = s := ⟨_, rfl⟩
  rw [hs] at hsc hsz
  have HS := Aside0.mk hs
  have HC := Aside0.mk hr
  have HALL := Aside0.mk hall
  obtain ⟨hlong, rfl⟩ := hlong
  have hlc := hl0
  have q1 : ((l.length : Int) > 300) = False := eq_false (by omega)
  have HLC := Aside0.mk hlc
  subst her
  have HA := Aside0.mk (fun w => runes_any s ls none w (by omega) hsc)
  have HB := Aside0.mk (fun (A : Option Addr) (w : World) (hr : Kd.C (Kd.int .i64) w A ls.length ls) => bytes_back A ls.length s ls w hsz hsc hr (Nat.le_refl _))
  have HQ := Aside0.mk (fun w => quote_ok s ls w (by omega) hsc)
  have HU := Aside0.mk (quote_back s ls hsz hsc)
  obtain ⟨q, hq⟩ : ∃ q, strOfNums (quoteI (bytesOf s)) = q := ⟨_, rfl⟩
  rw [hq] at HQ HU
  obtain ⟨x0, n0, h0⟩ := esc_back false s ls hsz hsc
  obtain ⟨x1, n1, h1⟩ := esc_back true s ls hsz hsc
  have HE0 := Aside0.mk h0
  have HE1 := Aside0.mk h1
  have HX0 := Aside0.mk h0.1
  have HX1 := Aside0.mk h1.1
  have e1 : (s.toList == s.toList) = true := by simp
  have e2 : (s.toList != s.toList) = false := by simp
  clear hq h0 h1
  clear hs hsc hr hall hl0 hlc hlong
  go_enter Tryd.func8, Tryd.ntmps8
  go_wp2_with (first
    | (go_at_call 24; (with_reducible refine (few2 s0 _).mono ?_); rintro e w1 ⟨rfl, ⟨nd, rfl⟩⟩; rw [HS.out])
    | (go_at_call 12; (with_reducible refine (HA.out _).mono ?_); rintro e w2 hp2; obtain ⟨_, A2, rfl, hr2, hb2⟩ := Or.resolve_right hp2 (fun ⟨_, _, h, _⟩ => by cases h); clear hp2; have HR2 := Aside0.mk hr2; have HB2 : Aside0 (Below w.heap.size w w2) := ⟨bl_trans (bl_drewN (Below.refl _ _) _) hb2⟩; clear hr2 hb2)
    | (go_at_call 15; (with_reducible refine (HB.out A2 _ HR2.out).mono ?_); rintro e w3 ⟨rfl, hb3⟩; have HB3 : Aside0 (Below w.heap.size w w3) := ⟨bl_trans HB2.out hb3⟩; clear hb3)
    | (go_at_call 18; (with_reducible refine (HQ.out _).mono ?_); rintro e w4 ⟨rfl, hb4⟩; have HB4 : Aside0 (Below w.heap.size w w4) := ⟨bl_trans HB3.out hb4⟩; clear hb4)
    | (go_at_call 19; (with_reducible refine (HU.out _).mono ?_); rintro e w5 ⟨rfl, hb5⟩; have HB5 : Aside0 (Below w.heap.size w w5) := ⟨bl_trans HB4.out hb5⟩; clear hb5))
  go_loopg [13] 2 (fun kq v13 w' => ∃ i : Nat, v13 = .int .i64 i ∧ Aside0 (kq = 2 - i ∧ i ≤ 2) ∧ Aside0 (Below w.heap.size w w'))
  case atStart => exact ⟨0, rfl, ⟨rfl, by omega⟩, ⟨HB5.out⟩⟩
  case round =>
    obtain ⟨i, rfl, HI, HBR⟩ := hrel
    obtain ⟨hk, hi2⟩ := HI.out
    have hi : i = 0 ∨ i = 1 ∨ i = 2 := by omega
    have HK := Aside0.mk hk
    clear hk
    rcases hi with rfl | rfl | rfl
    · by_cases hn : n0 = 0
      · subst hn
        have HN := Aside0.mk (HE0.out.2.1 rfl)
        clear HI
        go_wp2_with (first
          | (go_at_call 21; (with_reducible refine (HX0.out _).mono ?_); rintro e w6 ⟨rfl, hb6⟩)
          | (go_at_call 22; (with_reducible refine (HN.out _).mono ?_); rintro e w7 ⟨rfl, hb7⟩))
        go_roundg 1
        case measure => have := HK.out; omega
        case rel => exact ⟨1, by go_num, ⟨rfl, by omega⟩, ⟨bl_trans (bl_trans HBR.out hb6) hb7⟩⟩
      · have HN := Aside0.mk HE0.out.2.2
        have c1 : (n0 == 0) = false := by simpa using hn
        clear HI hn
        go_wp2_with (first
          | (go_at_call 21; (with_reducible refine (HX0.out _).mono ?_); rintro e w6 ⟨rfl, hb6⟩)
          | (go_at_call 22; (with_reducible refine (HN.out _).mono ?_); rintro e w7 ⟨u7, v7, rfl, hb7⟩))
        go_roundg 1
        case measure => have := HK.out; omega
        case rel => exact ⟨1, by go_num, ⟨rfl, by omega⟩, ⟨bl_trans (bl_trans HBR.out hb6) hb7⟩⟩
    · by_cases hn : n1 = 0
      · subst hn
        have HN := Aside0.mk (HE1.out.2.1 rfl)
        clear HI
        go_wp2_with (first
          | (go_at_call 21; (with_reducible refine (HX1.out _).mono ?_); rintro e w6 ⟨rfl, hb6⟩)
          | (go_at_call 22; (with_reducible refine (HN.out _).mono ?_); rintro e w7 ⟨rfl, hb7⟩))
        go_roundg 0
        case measure => have := HK.out; omega
        case rel => exact ⟨2, by go_num, ⟨rfl, by omega⟩, ⟨bl_trans (bl_trans HBR.out hb6) hb7⟩⟩
      · have HN := Aside0.mk HE1.out.2.2
        have c1 : (n1 == 0) = false := by simpa using hn
        clear HI hn
        go_wp2_with (first
          | (go_at_call 21; (with_reducible refine (HX1.out _).mono ?_); rintro e w6 ⟨rfl, hb6⟩)
          | (go_at_call 22; (with_reducible refine (HN.out _).mono ?_); rintro e w7 ⟨u7, v7, rfl, hb7⟩))
        go_roundg 0
        case measure => have := HK.out; omega
        case rel => exact ⟨2, by go_num, ⟨rfl, by omega⟩, ⟨bl_trans (bl_trans HBR.out hb6) hb7⟩⟩
    · clear HI
      go_wp2_with (first
        | (go_at_call 15; (with_reducible refine (bytes_yes A0 c0 l _ hl (by exact Kd.C_below HC.out HBR.out) HLC.out HALL.out).mono ?_); rintro e w8 ⟨rfl, hb8⟩; have HB8 : Aside0 (Below w.heap.size w w8) := ⟨bl_trans HBR.out hb8⟩; clear hb8)
        | (go_at_call 12; (with_reducible refine (runes_str l HALL.out hl _).mono ?_); rintro e w9 ⟨A9, rfl, hr9, hb9⟩; have HR9 := Aside0.mk hr9; have HB9 : Aside0 (Below w.heap.size w w9) := ⟨bl_trans HB8.out hb9⟩; clear hr9 hb9)
        | (go_at_call 13; (with_reducible refine (same_hit A9 A0 l l.length c0 _ (by omega) (by exact HR9.out) (Nat.le_refl _) (by exact Kd.C_below HC.out HB9.out) HLC.out).mono ?_); rintro e w10 ⟨rfl, ⟨nd10, rfl⟩⟩)
        | (go_at_call 3; (with_reducible refine (runs_later w _ he ?_).mono ?_); (focus exact bl_drewN HB9.out _); rintro e w11 ⟨rfl, hc11⟩))
      go_ret
      exact ⟨rfl, hc11⟩

set_option maxHeartbeats 8000000 in
set_option maxRecDepth 100000 in
theorem back_ftf (s0 : ByteArray) (A0 : Option Addr) (c0 : Nat) (l0 l : List Int) (w : World) (he : Env w) (ls : List Int) (er : Option Nat) (hsc : Scan (fewI s0 2000) 0 ls er) (her : er = none) (hcm : c0 ≤ 9223372036854775807)
    (hlong : ¬ 300 < l0.length ∧ l = l0) (hl0 : l0.length ≤ c0) (hl : l.length ≤ 300) (hr : Kd.C (Kd.int .i64) w A0 l.length l) (hall : l.all charB = false) :
    Calls Tryd.prog 8 #[.string s0, .slice A0 l0.length c0] w fun e w' => e = .returned (.bool true) ∧ Below w.heap.size w w' := by
  have hsz := few_size s0 2000
  obtain ⟨s, hs⟩ : ∃ s, fewI s0 2000 = s := ⟨_, rfl⟩
  rw [hs] at hsc hsz
  have HS := Aside0.mk hs
  have HC := Aside0.mk hr
  have HALL := Aside0.mk hall
  obtain ⟨hlong, rfl⟩ := hlong
  have hlc := hl0
  have q1 : ((l.length : Int) > 300) = False := eq_false (by omega)
  have HLC := Aside0.mk hlc
  subst her
  have HA := Aside0.mk (fun w => runes_any s ls none w (by omega) hsc)
  have HB := Aside0.mk (fun (A : Option Addr) (w : World) (hr : Kd.C (Kd.int .i64) w A ls.length ls) => bytes_back A ls.length s ls w hsz hsc hr (Nat.le_refl _))
  have HQ := Aside0.mk (fun w => quote_ok s ls w (by omega) hsc)
  have HU := Aside0.mk (quote_back s ls hsz hsc)
  obtain ⟨q, hq⟩ : ∃ q, strOfNums (quoteI (bytesOf s)) = q := ⟨_, rfl⟩
  rw [hq] at HQ HU
  obtain ⟨x0, n0, h0⟩ := esc_back false s ls hsz hsc
  obtain ⟨x1, n1, h1⟩ := esc_back true s ls hsz hsc
  have HE0 := Aside0.mk h0
  have HE1 := Aside0.mk h1
  have HX0 := Aside0.mk h0.1
  have HX1 := Aside0.mk h1.1
  have e1 : (s.toList == s.toList) = true := by simp
  have e2 : (s.toList != s.toList) = false := by simp
  clear hq h0 h1
  clear hs hsc hr hall hl0 hlc hlong
  go_enter Tryd.func8, Tryd.ntmps8
  go_wp2_with (first
    | (go_at_call 24; (with_reducible refine (few2 s0 _).mono ?_); rintro e w1 ⟨rfl, ⟨nd, rfl⟩⟩; rw [HS.out])
    | (go_at_call 12; (with_reducible refine (HA.out _).mono ?_); rintro e w2 hp2; obtain ⟨_, A2, rfl, hr2, hb2⟩ := Or.resolve_right hp2 (fun ⟨_, _, h, _⟩ => by cases h); clear hp2; have HR2 := Aside0.mk hr2; have HB2 : Aside0 (Below w.heap.size w w2) := ⟨bl_trans (bl_drewN (Below.refl _ _) _) hb2⟩; clear hr2 hb2)
    | (go_at_call 15; (with_reducible refine (HB.out A2 _ HR2.out).mono ?_); rintro e w3 ⟨rfl, hb3⟩; have HB3 : Aside0 (Below w.heap.size w w3) := ⟨bl_trans HB2.out hb3⟩; clear hb3)
    | (go_at_call 18; (with_reducible refine (HQ.out _).mono ?_); rintro e w4 ⟨rfl, hb4⟩; have HB4 : Aside0 (Below w.heap.size w w4) := ⟨bl_trans HB3.out hb4⟩; clear hb4)
    | (go_at_call 19; (with_reducible refine (HU.out _).mono ?_); rintro e w5 ⟨rfl, hb5⟩; have HB5 : Aside0 (Below w.heap.size w w5) := ⟨bl_trans HB4.out hb5⟩; clear hb5))
  go_loopg [13] 2 (fun kq v13 w' => ∃ i : Nat, v13 = .int .i64 i ∧ Aside0 (kq = 2 - i ∧ i ≤ 2) ∧ Aside0 (Below w.heap.size w w'))
  case atStart => exact ⟨0, rfl, ⟨rfl, by omega⟩, ⟨HB5.out⟩⟩
  case round =>
    obtain ⟨i, rfl, HI, HBR⟩ := hrel
    obtain ⟨hk, hi2⟩ := HI.out
    have hi : i = 0 ∨ i = 1 ∨ i = 2 := by omega
    have HK := Aside0.mk hk
    clear hk
    rcases hi with rfl | rfl | rfl
    · by_cases hn : n0 = 0
      · subst hn
        have HN := Aside0.mk (HE0.out.2.1 rfl)
        clear HI
        go_wp2_with (first
          | (go_at_call 21; (with_reducible refine (HX0.out _).mono ?_); rintro e w6 ⟨rfl, hb6⟩)
          | (go_at_call 22; (with_reducible refine (HN.out _).mono ?_); rintro e w7 ⟨rfl, hb7⟩))
        go_roundg 1
        case measure => have := HK.out; omega
        case rel => exact ⟨1, by go_num, ⟨rfl, by omega⟩, ⟨bl_trans (bl_trans HBR.out hb6) hb7⟩⟩
      · have HN := Aside0.mk HE0.out.2.2
        have c1 : (n0 == 0) = false := by simpa using hn
        clear HI hn
        go_wp2_with (first
          | (go_at_call 21; (with_reducible refine (HX0.out _).mono ?_); rintro e w6 ⟨rfl, hb6⟩)
          | (go_at_call 22; (with_reducible refine (HN.out _).mono ?_); rintro e w7 ⟨u7, v7, rfl, hb7⟩))
        go_roundg 1
        case measure => have := HK.out; omega
        case rel => exact ⟨1, by go_num, ⟨rfl, by omega⟩, ⟨bl_trans (bl_trans HBR.out hb6) hb7⟩⟩
    · by_cases hn : n1 = 0
      · subst hn
        have HN := Aside0.mk (HE1.out.2.1 rfl)
        clear HI
        go_wp2_with (first
          | (go_at_call 21; (with_reducible refine (HX1.out _).mono ?_); rintro e w6 ⟨rfl, hb6⟩)
          | (go_at_call 22; (with_reducible refine (HN.out _).mono ?_); rintro e w7 ⟨rfl, hb7⟩))
        go_roundg 0
        case measure => have := HK.out; omega
        case rel => exact ⟨2, by go_num, ⟨rfl, by omega⟩, ⟨bl_trans (bl_trans HBR.out hb6) hb7⟩⟩
      · have HN := Aside0.mk HE1.out.2.2
        have c1 : (n1 == 0) = false := by simpa using hn
        clear HI hn
        go_wp2_with (first
          | (go_at_call 21; (with_reducible refine (HX1.out _).mono ?_); rintro e w6 ⟨rfl, hb6⟩)
          | (go_at_call 22; (with_reducible refine (HN.out _).mono ?_); rintro e w7 ⟨u7, v7, rfl, hb7⟩))
        go_roundg 0
        case measure => have := HK.out; omega
        case rel => exact ⟨2, by go_num, ⟨rfl, by omega⟩, ⟨bl_trans (bl_trans HBR.out hb6) hb7⟩⟩
    · clear HI
      go_wp2_with (first
        | (go_at_call 15; (with_reducible refine (bytes_no A0 c0 l _ hl (by exact Kd.C_below HC.out HBR.out) HLC.out HALL.out).mono ?_); rintro e w8 ⟨rfl, hb8⟩; have HB8 : Aside0 (Below w.heap.size w w8) := ⟨bl_trans HBR.out hb8⟩; clear hb8)
        | (go_at_call 3; (with_reducible refine (runs_later w _ he ?_).mono ?_); (focus exact HB8.out); rintro e w11 ⟨rfl, hc11⟩))
      go_ret
      exact ⟨rfl, hc11⟩

set_option maxHeartbeats 8000000 in
set_option maxRecDepth 100000 in
theorem back_fft (s0 : ByteArray) (A0 : Option Addr) (c0 : Nat) (l0 l : List Int) (w : World) (he : Env w) (ls : List Int) (er : Option Nat) (hsc : Scan (fewI s0 2000) 0 ls er) (her : ∃ a, er = some a) (hcm : c0 ≤ 9223372036854775807)
    (hlong : ¬ 300 < l0.length ∧ l = l0) (hl0 : l0.length ≤ c0) (hl : l.length ≤ 300) (hr : Kd.C (Kd.int .i64) w A0 l.length l) (hall : l.all charB = true) :
    Calls Tryd.prog 8 #[.string s0, .slice A0 l0.length c0] w fun e w' => e = .returned (.bool true) ∧ Below w.heap.size w w' := by
  have hsz := few_size s0 2000
  obtain ⟨s, hs⟩ : ∃ s, fewI s0 2000 = s := ⟨_, rfl⟩
  rw [hs] at hsc hsz
  have HS := Aside0.mk hs
  have HC := Aside0.mk hr
  have HALL := Aside0.mk hall
  obtain ⟨hlong, rfl⟩ := hlong
  have hlc := hl0
  have q1 : ((l.length : Int) > 300) = False := eq_false (by omega)
  have HLC := Aside0.mk hlc
  obtain ⟨a, rfl⟩ := her
  have HA := Aside0.mk (fun w => runes_bad s a ls w (by omega) hsc)
  clear hs hsc hr hall hl0 hlc hlong
  go_enter Tryd.func8, Tryd.ntmps8
  go_wp2_with (first
    | (go_at_call 24; (with_reducible refine (few2 s0 _).mono ?_); rintro e w1 ⟨rfl, ⟨nd, rfl⟩⟩; rw [HS.out])
    | (go_at_call 12; (with_reducible refine (HA.out _).mono ?_); rintro e w2 ⟨g2, rfl, hrf2, hg2, hb2⟩; have HB2 : Aside0 (Below w.heap.size w w2) := ⟨bl_trans (bl_drewN (Below.refl _ _) _) hb2⟩; clear hrf2 hg2 hb2)
    | (go_at_call 15; (with_reducible refine (bytes_yes A0 c0 l _ hl (by exact Kd.C_below HC.out HB2.out) HLC.out HALL.out).mono ?_); rintro e w8 ⟨rfl, hb8⟩; have HB8 : Aside0 (Below w.heap.size w w8) := ⟨bl_trans HB2.out hb8⟩; clear hb8)
    | (go_at_call 12; (with_reducible refine (runes_str l HALL.out hl _).mono ?_); rintro e w9 ⟨A9, rfl, hr9, hb9⟩; have HR9 := Aside0.mk hr9; have HB9 : Aside0 (Below w.heap.size w w9) := ⟨bl_trans HB8.out hb9⟩; clear hr9 hb9)
    | (go_at_call 13; (with_reducible refine (same_hit A9 A0 l l.length c0 _ (by omega) (by exact HR9.out) (Nat.le_refl _) (by exact Kd.C_below HC.out HB9.out) HLC.out).mono ?_); rintro e w10 ⟨rfl, ⟨nd10, rfl⟩⟩)
    | (go_at_call 3; (with_reducible refine (runs_later w _ he ?_).mono ?_); (focus exact bl_drewN HB9.out _); rintro e w11 ⟨rfl, hc11⟩))
  go_ret
  exact ⟨rfl, hc11⟩

set_option maxHeartbeats 8000000 in
set_option maxRecDepth 100000 in
theorem back_fff (s0 : ByteArray) (A0 : Option Addr) (c0 : Nat) (l0 l : List Int) (w : World) (he : Env w) (ls : List Int) (er : Option Nat) (hsc : Scan (fewI s0 2000) 0 ls er) (her : ∃ a, er = some a) (hcm : c0 ≤ 9223372036854775807)
    (hlong : ¬ 300 < l0.length ∧ l = l0) (hl0 : l0.length ≤ c0) (hl : l.length ≤ 300) (hr : Kd.C (Kd.int .i64) w A0 l.length l) (hall : l.all charB = false) :
    Calls Tryd.prog 8 #[.string s0, .slice A0 l0.length c0] w fun e w' => e = .returned (.bool true) ∧ Below w.heap.size w w' := by
  have hsz := few_size s0 2000
  obtain ⟨s, hs⟩ : ∃ s, fewI s0 2000 = s := ⟨_, rfl⟩
  rw [hs] at hsc hsz
  have HS := Aside0.mk hs
  have HC := Aside0.mk hr
  have HALL := Aside0.mk hall
  obtain ⟨hlong, rfl⟩ := hlong
  have hlc := hl0
  have q1 : ((l.length : Int) > 300) = False := eq_false (by omega)
  have HLC := Aside0.mk hlc
  obtain ⟨a, rfl⟩ := her
  have HA := Aside0.mk (fun w => runes_bad s a ls w (by omega) hsc)
  clear hs hsc hr hall hl0 hlc hlong
  go_enter Tryd.func8, Tryd.ntmps8
  go_wp2_with (first
    | (go_at_call 24; (with_reducible refine (few2 s0 _).mono ?_); rintro e w1 ⟨rfl, ⟨nd, rfl⟩⟩; rw [HS.out])
    | (go_at_call 12; (with_reducible refine (HA.out _).mono ?_); rintro e w2 ⟨g2, rfl, hrf2, hg2, hb2⟩; have HB2 : Aside0 (Below w.heap.size w w2) := ⟨bl_trans (bl_drewN (Below.refl _ _) _) hb2⟩; clear hrf2 hg2 hb2)
    | (go_at_call 15; (with_reducible refine (bytes_no A0 c0 l _ hl (by exact Kd.C_below HC.out HB2.out) HLC.out HALL.out).mono ?_); rintro e w8 ⟨rfl, hb8⟩; have HB8 : Aside0 (Below w.heap.size w w8) := ⟨bl_trans HB2.out hb8⟩; clear hb8)
    | (go_at_call 3; (with_reducible refine (runs_later w _ he ?_).mono ?_); (focus exact HB8.out); rintro e w11 ⟨rfl, hc11⟩))
  go_ret
  exact ⟨rfl, hc11⟩

set_option maxHeartbeats 8000000 in
set_option maxRecDepth 100000 in
theorem back_ttt (s0 : ByteArray) (A0 : Option Addr) (c0 : Nat) (l0 l : List Int) (w : World) (he : Env w) (ls : List Int) (er : Option Nat) (hsc : Scan (fewI s0 2000) 0 ls er) (her : er = none) (hcm : c0 ≤ 9223372036854775807)
    (hlong : 300 < l0.length ∧ l = l0.take 300) (hl0 : l0.length ≤ c0) (hl : l.length ≤ 300) (hr : Kd.C (Kd.int .i64) w A0 l.length l) (hall : l.all charB = true) :
    Calls Tryd.prog 8 #[.string s0, .slice A0 l0.length c0] w fun e w' => e = .returned (.bool true) ∧ Below w.heap.size w w' := by
  have hsz := few_size s0 2000
  obtain ⟨s, hs⟩ : ∃ s, fewI s0 2000 = s := ⟨_, rfl⟩
  rw [hs] at hsc hsz
  have HS := Aside0.mk hs
  have HC := Aside0.mk hr
  have HALL := Aside0.mk hall
  obtain ⟨hlong, rfl⟩ := hlong
  have hlt : (l0.take 300).length = 300 := by rw [List.length_take]; omega
  have hsl := (print_take_int (k := .i64) 22 3 Tryd.underlying22 (info_parts infoInt).choose_spec.1 (info_parts infoInt).choose_spec.2.2.1 A0 c0 l0 300 (by decide) (by omega) hl0).1
  rw [show ((300 : Int)).toNat = 300 from rfl] at hsl
  obtain ⟨l, hll⟩ : ∃ l, l0.take 300 = l := ⟨_, rfl⟩
  rw [hll] at hsl HC HALL hl hlt
  have hlc : l.length ≤ c0 := by omega
  have q1 : ((l0.length : Int) > 300) = True := eq_true (by omega)
  have HLC := Aside0.mk hlc
  subst her
  have HA := Aside0.mk (fun w => runes_any s ls none w (by omega) hsc)
  have HB := Aside0.mk (fun (A : Option Addr) (w : World) (hr : Kd.C (Kd.int .i64) w A ls.length ls) => bytes_back A ls.length s ls w hsz hsc hr (Nat.le_refl _))
  have HQ := Aside0.mk (fun w => quote_ok s ls w (by omega) hsc)
  have HU := Aside0.mk (quote_back s ls hsz hsc)
  obtain ⟨q, hq⟩ : ∃ q, strOfNums (quoteI (bytesOf s)) = q := ⟨_, rfl⟩
  rw [hq] at HQ HU
  obtain ⟨x0, n0, h0⟩ := esc_back false s ls hsz hsc
  obtain ⟨x1, n1, h1⟩ := esc_back true s ls hsz hsc
  have HE0 := Aside0.mk h0
  have HE1 := Aside0.mk h1
  have HX0 := Aside0.mk h0.1
  have HX1 := Aside0.mk h1.1
  have e1 : (s.toList == s.toList) = true := by simp
  have e2 : (s.toList != s.toList) = false := by simp
  clear hq h0 h1
  clear hs hsc hr hall hl0 hlc hlong hll hlt
  go_enter Tryd.func8, Tryd.ntmps8
  go_wp2_with (first
    | (go_at_call 24; (with_reducible refine (few2 s0 _).mono ?_); rintro e w1 ⟨rfl, ⟨nd, rfl⟩⟩; rw [HS.out])
    | (go_at_call 12; (with_reducible refine (HA.out _).mono ?_); rintro e w2 hp2; obtain ⟨_, A2, rfl, hr2, hb2⟩ := Or.resolve_right hp2 (fun ⟨_, _, h, _⟩ => by cases h); clear hp2; have HR2 := Aside0.mk hr2; have HB2 : Aside0 (Below w.heap.size w w2) := ⟨bl_trans (bl_drewN (Below.refl _ _) _) hb2⟩; clear hr2 hb2)
    | (go_at_call 15; (with_reducible refine (HB.out A2 _ HR2.out).mono ?_); rintro e w3 ⟨rfl, hb3⟩; have HB3 : Aside0 (Below w.heap.size w w3) := ⟨bl_trans HB2.out hb3⟩; clear hb3)
    | (go_at_call 18; (with_reducible refine (HQ.out _).mono ?_); rintro e w4 ⟨rfl, hb4⟩; have HB4 : Aside0 (Below w.heap.size w w4) := ⟨bl_trans HB3.out hb4⟩; clear hb4)
    | (go_at_call 19; (with_reducible refine (HU.out _).mono ?_); rintro e w5 ⟨rfl, hb5⟩; have HB5 : Aside0 (Below w.heap.size w w5) := ⟨bl_trans HB4.out hb5⟩; clear hb5))
  go_loopg [13] 2 (fun kq v13 w' => ∃ i : Nat, v13 = .int .i64 i ∧ Aside0 (kq = 2 - i ∧ i ≤ 2) ∧ Aside0 (Below w.heap.size w w'))
  case atStart => exact ⟨0, rfl, ⟨rfl, by omega⟩, ⟨HB5.out⟩⟩
  case round =>
    obtain ⟨i, rfl, HI, HBR⟩ := hrel
    obtain ⟨hk, hi2⟩ := HI.out
    have hi : i = 0 ∨ i = 1 ∨ i = 2 := by omega
    have HK := Aside0.mk hk
    clear hk
    rcases hi with rfl | rfl | rfl
    · by_cases hn : n0 = 0
      · subst hn
        have HN := Aside0.mk (HE0.out.2.1 rfl)
        clear HI
        go_wp2_with (first
          | (go_at_call 21; (with_reducible refine (HX0.out _).mono ?_); rintro e w6 ⟨rfl, hb6⟩)
          | (go_at_call 22; (with_reducible refine (HN.out _).mono ?_); rintro e w7 ⟨rfl, hb7⟩))
        go_roundg 1
        case measure => have := HK.out; omega
        case rel => exact ⟨1, by go_num, ⟨rfl, by omega⟩, ⟨bl_trans (bl_trans HBR.out hb6) hb7⟩⟩
      · have HN := Aside0.mk HE0.out.2.2
        have c1 : (n0 == 0) = false := by simpa using hn
        clear HI hn
        go_wp2_with (first
          | (go_at_call 21; (with_reducible refine (HX0.out _).mono ?_); rintro e w6 ⟨rfl, hb6⟩)
          | (go_at_call 22; (with_reducible refine (HN.out _).mono ?_); rintro e w7 ⟨u7, v7, rfl, hb7⟩))
        go_roundg 1
        case measure => have := HK.out; omega
        case rel => exact ⟨1, by go_num, ⟨rfl, by omega⟩, ⟨bl_trans (bl_trans HBR.out hb6) hb7⟩⟩
    · by_cases hn : n1 = 0
      · subst hn
        have HN := Aside0.mk (HE1.out.2.1 rfl)
        clear HI
        go_wp2_with (first
          | (go_at_call 21; (with_reducible refine (HX1.out _).mono ?_); rintro e w6 ⟨rfl, hb6⟩)
          | (go_at_call 22; (with_reducible refine (HN.out _).mono ?_); rintro e w7 ⟨rfl, hb7⟩))
        go_roundg 0
        case measure => have := HK.out; omega
        case rel => exact ⟨2, by go_num, ⟨rfl, by omega⟩, ⟨bl_trans (bl_trans HBR.out hb6) hb7⟩⟩
      · have HN := Aside0.mk HE1.out.2.2
        have c1 : (n1 == 0) = false := by simpa using hn
        clear HI hn
        go_wp2_with (first
          | (go_at_call 21; (with_reducible refine (HX1.out _).mono ?_); rintro e w6 ⟨rfl, hb6⟩)
          | (go_at_call 22; (with_reducible refine (HN.out _).mono ?_); rintro e w7 ⟨u7, v7, rfl, hb7⟩))
        go_roundg 0
        case measure => have := HK.out; omega
        case rel => exact ⟨2, by go_num, ⟨rfl, by omega⟩, ⟨bl_trans (bl_trans HBR.out hb6) hb7⟩⟩
    · clear HI
      go_wp2_with (first
        | (go_at_call 15; (with_reducible refine (bytes_yes A0 c0 l _ hl (by exact Kd.C_below HC.out HBR.out) HLC.out HALL.out).mono ?_); rintro e w8 ⟨rfl, hb8⟩; have HB8 : Aside0 (Below w.heap.size w w8) := ⟨bl_trans HBR.out hb8⟩; clear hb8)
        | (go_at_call 12; (with_reducible refine (runes_str l HALL.out hl _).mono ?_); rintro e w9 ⟨A9, rfl, hr9, hb9⟩; have HR9 := Aside0.mk hr9; have HB9 : Aside0 (Below w.heap.size w w9) := ⟨bl_trans HB8.out hb9⟩; clear hr9 hb9)
        | (go_at_call 13; (with_reducible refine (same_hit A9 A0 l l.length c0 _ (by omega) (by exact HR9.out) (Nat.le_refl _) (by exact Kd.C_below HC.out HB9.out) HLC.out).mono ?_); rintro e w10 ⟨rfl, ⟨nd10, rfl⟩⟩)
        | (go_at_call 3; (with_reducible refine (runs_later w _ he ?_).mono ?_); (focus exact bl_drewN HB9.out _); rintro e w11 ⟨rfl, hc11⟩))
      go_ret
      exact ⟨rfl, hc11⟩

set_option maxHeartbeats 8000000 in
set_option maxRecDepth 100000 in
theorem back_ttf (s0 : ByteArray) (A0 : Option Addr) (c0 : Nat) (l0 l : List Int) (w : World) (he : Env w) (ls : List Int) (er : Option Nat) (hsc : Scan (fewI s0 2000) 0 ls er) (her : er = none) (hcm : c0 ≤ 9223372036854775807)
    (hlong : 300 < l0.length ∧ l = l0.take 300) (hl0 : l0.length ≤ c0) (hl : l.length ≤ 300) (hr : Kd.C (Kd.int .i64) w A0 l.length l) (hall : l.all charB = false) :
    Calls Tryd.prog 8 #[.string s0, .slice A0 l0.length c0] w fun e w' => e = .returned (.bool true) ∧ Below w.heap.size w w' := by
  have hsz := few_size s0 2000
  obtain ⟨s, hs⟩ : ∃ s, fewI s0 2000 = s := ⟨_, rfl⟩
  rw [hs] at hsc hsz
  have HS := Aside0.mk hs
  have HC := Aside0.mk hr
  have HALL := Aside0.mk hall
  obtain ⟨hlong, rfl⟩ := hlong
  have hlt : (l0.take 300).length = 300 := by rw [List.length_take]; omega
  have hsl := (print_take_int (k := .i64) 22 3 Tryd.underlying22 (info_parts infoInt).choose_spec.1 (info_parts infoInt).choose_spec.2.2.1 A0 c0 l0 300 (by decide) (by omega) hl0).1
  rw [show ((300 : Int)).toNat = 300 from rfl] at hsl
  obtain ⟨l, hll⟩ : ∃ l, l0.take 300 = l := ⟨_, rfl⟩
  rw [hll] at hsl HC HALL hl hlt
  have hlc : l.length ≤ c0 := by omega
  have q1 : ((l0.length : Int) > 300) = True := eq_true (by omega)
  have HLC := Aside0.mk hlc
  subst her
  have HA := Aside0.mk (fun w => runes_any s ls none w (by omega) hsc)
  have HB := Aside0.mk (fun (A : Option Addr) (w : World) (hr : Kd.C (Kd.int .i64) w A ls.length ls) => bytes_back A ls.length s ls w hsz hsc hr (Nat.le_refl _))
  have HQ := Aside0.mk (fun w => quote_ok s ls w (by omega) hsc)
  have HU := Aside0.mk (quote_back s ls hsz hsc)
  obtain ⟨q, hq⟩ : ∃ q, strOfNums (quoteI (bytesOf s)) = q := ⟨_, rfl⟩
  rw [hq] at HQ HU
  obtain ⟨x0, n0, h0⟩ := esc_back false s ls hsz hsc
  obtain ⟨x1, n1, h1⟩ := esc_back true s ls hsz hsc
  have HE0 := Aside0.mk h0
  have HE1 := Aside0.mk h1
  have HX0 := Aside0.mk h0.1
  have HX1 := Aside0.mk h1.1
  have e1 : (s.toList == s.toList) = true := by simp
  have e2 : (s.toList != s.toList) = false := by simp
  clear hq h0 h1
  clear hs hsc hr hall hl0 hlc hlong hll hlt
  go_enter Tryd.func8, Tryd.ntmps8
  go_wp2_with (first
    | (go_at_call 24; (with_reducible refine (few2 s0 _).mono ?_); rintro e w1 ⟨rfl, ⟨nd, rfl⟩⟩; rw [HS.out])
    | (go_at_call 12; (with_reducible refine (HA.out _).mono ?_); rintro e w2 hp2; obtain ⟨_, A2, rfl, hr2, hb2⟩ := Or.resolve_right hp2 (fun ⟨_, _, h, _⟩ => by cases h); clear hp2; have HR2 := Aside0.mk hr2; have HB2 : Aside0 (Below w.heap.size w w2) := ⟨bl_trans (bl_drewN (Below.refl _ _) _) hb2⟩; clear hr2 hb2)
    | (go_at_call 15; (with_reducible refine (HB.out A2 _ HR2.out).mono ?_); rintro e w3 ⟨rfl, hb3⟩; have HB3 : Aside0 (Below w.heap.size w w3) := ⟨bl_trans HB2.out hb3⟩; clear hb3)
    | (go_at_call 18; (with_reducible refine (HQ.out _).mono ?_); rintro e w4 ⟨rfl, hb4⟩; have HB4 : Aside0 (Below w.heap.size w w4) := ⟨bl_trans HB3.out hb4⟩; clear hb4)
    | (go_at_call 19; (with_reducible refine (HU.out _).mono ?_); rintro e w5 ⟨rfl, hb5⟩; have HB5 : Aside0 (Below w.heap.size w w5) := ⟨bl_trans HB4.out hb5⟩; clear hb5))
  go_loopg [13] 2 (fun kq v13 w' => ∃ i : Nat, v13 = .int .i64 i ∧ Aside0 (kq = 2 - i ∧ i ≤ 2) ∧ Aside0 (Below w.heap.size w w'))
  case atStart => exact ⟨0, rfl, ⟨rfl, by omega⟩, ⟨HB5.out⟩⟩
  case round =>
    obtain ⟨i, rfl, HI, HBR⟩ := hrel
    obtain ⟨hk, hi2⟩ := HI.out
    have hi : i = 0 ∨ i = 1 ∨ i = 2 := by omega
    have HK := Aside0.mk hk
    clear hk
    rcases hi with rfl | rfl | rfl
    · by_cases hn : n0 = 0
      · subst hn
        have HN := Aside0.mk (HE0.out.2.1 rfl)
        clear HI
        go_wp2_with (first
          | (go_at_call 21; (with_reducible refine (HX0.out _).mono ?_); rintro e w6 ⟨rfl, hb6⟩)
          | (go_at_call 22; (with_reducible refine (HN.out _).mono ?_); rintro e w7 ⟨rfl, hb7⟩))
        go_roundg 1
        case measure => have := HK.out; omega
        case rel => exact ⟨1, by go_num, ⟨rfl, by omega⟩, ⟨bl_trans (bl_trans HBR.out hb6) hb7⟩⟩
      · have HN := Aside0.mk HE0.out.2.2
        have c1 : (n0 == 0) = false := by simpa using hn
        clear HI hn
        go_wp2_with (first
          | (go_at_call 21; (with_reducible refine (HX0.out _).mono ?_); rintro e w6 ⟨rfl, hb6⟩)
          | (go_at_call 22; (with_reducible refine (HN.out _).mono ?_); rintro e w7 ⟨u7, v7, rfl, hb7⟩))
        go_roundg 1
        case measure => have := HK.out; omega
        case rel => exact ⟨1, by go_num, ⟨rfl, by omega⟩, ⟨bl_trans (bl_trans HBR.out hb6) hb7⟩⟩
    · by_cases hn : n1 = 0
      · subst hn
        have HN := Aside0.mk (HE1.out.2.1 rfl)
        clear HI
        go_wp2_with (first
          | (go_at_call 21; (with_reducible refine (HX1.out _).mono ?_); rintro e w6 ⟨rfl, hb6⟩)
          | (go_at_call 22; (with_reducible refine (HN.out _).mono ?_); rintro e w7 ⟨rfl, hb7⟩))
        go_roundg 0
        case measure => have := HK.out; omega
        case rel => exact ⟨2, by go_num, ⟨rfl, by omega⟩, ⟨bl_trans (bl_trans HBR.out hb6) hb7⟩⟩
      · have HN := Aside0.mk HE1.out.2.2
        have c1 : (n1 == 0) = false := by simpa using hn
        clear HI hn
        go_wp2_with (first
          | (go_at_call 21; (with_reducible refine (HX1.out _).mono ?_); rintro e w6 ⟨rfl, hb6⟩)
          | (go_at_call 22; (with_reducible refine (HN.out _).mono ?_); rintro e w7 ⟨u7, v7, rfl, hb7⟩))
        go_roundg 0
        case measure => have := HK.out; omega
        case rel => exact ⟨2, by go_num, ⟨rfl, by omega⟩, ⟨bl_trans (bl_trans HBR.out hb6) hb7⟩⟩
    · clear HI
      go_wp2_with (first
        | (go_at_call 15; (with_reducible refine (bytes_no A0 c0 l _ hl (by exact Kd.C_below HC.out HBR.out) HLC.out HALL.out).mono ?_); rintro e w8 ⟨rfl, hb8⟩; have HB8 : Aside0 (Below w.heap.size w w8) := ⟨bl_trans HBR.out hb8⟩; clear hb8)
        | (go_at_call 3; (with_reducible refine (runs_later w _ he ?_).mono ?_); (focus exact HB8.out); rintro e w11 ⟨rfl, hc11⟩))
      go_ret
      exact ⟨rfl, hc11⟩

set_option maxHeartbeats 8000000 in
set_option maxRecDepth 100000 in
theorem back_tft (s0 : ByteArray) (A0 : Option Addr) (c0 : Nat) (l0 l : List Int) (w : World) (he : Env w) (ls : List Int) (er : Option Nat) (hsc : Scan (fewI s0 2000) 0 ls er) (her : ∃ a, er = some a) (hcm : c0 ≤ 9223372036854775807)
    (hlong : 300 < l0.length ∧ l = l0.take 300) (hl0 : l0.length ≤ c0) (hl : l.length ≤ 300) (hr : Kd.C (Kd.int .i64) w A0 l.length l) (hall : l.all charB = true) :
    Calls Tryd.prog 8 #[.string s0, .slice A0 l0.length c0] w fun e w' => e = .returned (.bool true) ∧ Below w.heap.size w w' := by
  have hsz := few_size s0 2000
  obtain ⟨s, hs⟩ : ∃ s, fewI s0 2000 = s := ⟨_, rfl⟩
  rw [hs] at hsc hsz
  have HS := Aside0.mk hs
  have HC := Aside0.mk hr
  have HALL := Aside0.mk hall
  obtain ⟨hlong, rfl⟩ := hlong
  have hlt : (l0.take 300).length = 300 := by rw [List.length_take]; omega
  have hsl := (print_take_int (k := .i64) 22 3 Tryd.underlying22 (info_parts infoInt).choose_spec.1 (info_parts infoInt).choose_spec.2.2.1 A0 c0 l0 300 (by decide) (by omega) hl0).1
  rw [show ((300 : Int)).toNat = 300 from rfl] at hsl
  obtain ⟨l, hll⟩ : ∃ l, l0.take 300 = l := ⟨_, rfl⟩
  rw [hll] at hsl HC HALL hl hlt
  have hlc : l.length ≤ c0 := by omega
  have q1 : ((l0.length : Int) > 300) = True := eq_true (by omega)
  have HLC := Aside0.mk hlc
  obtain ⟨a, rfl⟩ := her
  have HA := Aside0.mk (fun w => runes_bad s a ls w (by omega) hsc)
  clear hs hsc hr hall hl0 hlc hlong hll hlt
  go_enter Tryd.func8, Tryd.ntmps8
  go_wp2_with (first
    | (go_at_call 24; (with_reducible refine (few2 s0 _).mono ?_); rintro e w1 ⟨rfl, ⟨nd, rfl⟩⟩; rw [HS.out])
    | (go_at_call 12; (with_reducible refine (HA.out _).mono ?_); rintro e w2 ⟨g2, rfl, hrf2, hg2, hb2⟩; have HB2 : Aside0 (Below w.heap.size w w2) := ⟨bl_trans (bl_drewN (Below.refl _ _) _) hb2⟩; clear hrf2 hg2 hb2)
    | (go_at_call 15; (with_reducible refine (bytes_yes A0 c0 l _ hl (by exact Kd.C_below HC.out HB2.out) HLC.out HALL.out).mono ?_); rintro e w8 ⟨rfl, hb8⟩; have HB8 : Aside0 (Below w.heap.size w w8) := ⟨bl_trans HB2.out hb8⟩; clear hb8)
    | (go_at_call 12; (with_reducible refine (runes_str l HALL.out hl _).mono ?_); rintro e w9 ⟨A9, rfl, hr9, hb9⟩; have HR9 := Aside0.mk hr9; have HB9 : Aside0 (Below w.heap.size w w9) := ⟨bl_trans HB8.out hb9⟩; clear hr9 hb9)
    | (go_at_call 13; (with_reducible refine (same_hit A9 A0 l l.length c0 _ (by omega) (by exact HR9.out) (Nat.le_refl _) (by exact Kd.C_below HC.out HB9.out) HLC.out).mono ?_); rintro e w10 ⟨rfl, ⟨nd10, rfl⟩⟩)
    | (go_at_call 3; (with_reducible refine (runs_later w _ he ?_).mono ?_); (focus exact bl_drewN HB9.out _); rintro e w11 ⟨rfl, hc11⟩))
  go_ret
  exact ⟨rfl, hc11⟩

set_option maxHeartbeats 8000000 in
set_option maxRecDepth 100000 in
theorem back_tff (s0 : ByteArray) (A0 : Option Addr) (c0 : Nat) (l0 l : List Int) (w : World) (he : Env w) (ls : List Int) (er : Option Nat) (hsc : Scan (fewI s0 2000) 0 ls er) (her : ∃ a, er = some a) (hcm : c0 ≤ 9223372036854775807)
    (hlong : 300 < l0.length ∧ l = l0.take 300) (hl0 : l0.length ≤ c0) (hl : l.length ≤ 300) (hr : Kd.C (Kd.int .i64) w A0 l.length l) (hall : l.all charB = false) :
    Calls Tryd.prog 8 #[.string s0, .slice A0 l0.length c0] w fun e w' => e = .returned (.bool true) ∧ Below w.heap.size w w' := by
  have hsz := few_size s0 2000
  obtain ⟨s, hs⟩ : ∃ s, fewI s0 2000 = s := ⟨_, rfl⟩
  rw [hs] at hsc hsz
  have HS := Aside0.mk hs
  have HC := Aside0.mk hr
  have HALL := Aside0.mk hall
  obtain ⟨hlong, rfl⟩ := hlong
  have hlt : (l0.take 300).length = 300 := by rw [List.length_take]; omega
  have hsl := (print_take_int (k := .i64) 22 3 Tryd.underlying22 (info_parts infoInt).choose_spec.1 (info_parts infoInt).choose_spec.2.2.1 A0 c0 l0 300 (by decide) (by omega) hl0).1
  rw [show ((300 : Int)).toNat = 300 from rfl] at hsl
  obtain ⟨l, hll⟩ : ∃ l, l0.take 300 = l := ⟨_, rfl⟩
  rw [hll] at hsl HC HALL hl hlt
  have hlc : l.length ≤ c0 := by omega
  have q1 : ((l0.length : Int) > 300) = True := eq_true (by omega)
  have HLC := Aside0.mk hlc
  obtain ⟨a, rfl⟩ := her
  have HA := Aside0.mk (fun w => runes_bad s a ls w (by omega) hsc)
  clear hs hsc hr hall hl0 hlc hlong hll hlt
  go_enter Tryd.func8, Tryd.ntmps8
  go_wp2_with (first
    | (go_at_call 24; (with_reducible refine (few2 s0 _).mono ?_); rintro e w1 ⟨rfl, ⟨nd, rfl⟩⟩; rw [HS.out])
    | (go_at_call 12; (with_reducible refine (HA.out _).mono ?_); rintro e w2 ⟨g2, rfl, hrf2, hg2, hb2⟩; have HB2 : Aside0 (Below w.heap.size w w2) := ⟨bl_trans (bl_drewN (Below.refl _ _) _) hb2⟩; clear hrf2 hg2 hb2)
    | (go_at_call 15; (with_reducible refine (bytes_no A0 c0 l _ hl (by exact Kd.C_below HC.out HB2.out) HLC.out HALL.out).mono ?_); rintro e w8 ⟨rfl, hb8⟩; have HB8 : Aside0 (Below w.heap.size w w8) := ⟨bl_trans HB2.out hb8⟩; clear hb8)
    | (go_at_call 3; (with_reducible refine (runs_later w _ he ?_).mono ?_); (focus exact HB8.out); rintro e w11 ⟨rfl, hc11⟩))
  go_ret
  exact ⟨rfl, hc11⟩

/-- TextBack is true. -/
theorem back_true (s : ByteArray) (A : Option Addr) (c : Nat) (l0 : List Int) (w : World) (he : Env w) (hr : Kd.C (Kd.int .i64) w A l0.length l0) (hc : l0.length ≤ c) (hcm : c ≤ 9223372036854775807) (hl : l0.length * 8 ≤ 140737488351232) (hwf : ∀ x ∈ l0, (Lit.int .i64 x).wf = true) :
    Calls Tryd.prog 8 #[.string s, .slice A l0.length c] w fun e w' => e = .returned (.bool true) ∧ Below w.heap.size w w' := by
  obtain ⟨ls, er, hsc⟩ := scan_exists (fewI s 2000) _ 0 (Nat.zero_le _) rfl
  by_cases h3 : 300 < l0.length
  · have hlt : (l0.take 300).length = 300 := by rw [List.length_take]; omega
    have hr' : Kd.C (Kd.int .i64) w A (l0.take 300).length (l0.take 300) := by
      rw [hlt]
      exact Kd.C_of_reads (enc := Value.int .i64) (d := (0 : Int)) (h1 := fun _ => rfl) ((int_reads hr).take_ 300 (by omega))
    cases hall : (l0.take 300).all charB <;> cases er with
    | none => first | exact back_ttt s A c l0 _ w he ls none hsc rfl hcm ⟨h3, rfl⟩ hc (by omega) hr' hall | exact back_ttf s A c l0 _ w he ls none hsc rfl hcm ⟨h3, rfl⟩ hc (by omega) hr' hall
    | some a => first | exact back_tft s A c l0 _ w he ls _ hsc ⟨a, rfl⟩ hcm ⟨h3, rfl⟩ hc (by omega) hr' hall | exact back_tff s A c l0 _ w he ls _ hsc ⟨a, rfl⟩ hcm ⟨h3, rfl⟩ hc (by omega) hr' hall
  · cases hall : l0.all charB <;> cases er with
    | none => first | exact back_ftt s A c l0 _ w he ls none hsc rfl hcm ⟨h3, rfl⟩ hc (by omega) hr hall | exact back_ftf s A c l0 _ w he ls none hsc rfl hcm ⟨h3, rfl⟩ hc (by omega) hr hall
    | some a => first | exact back_fft s A c l0 _ w he ls _ hsc ⟨a, rfl⟩ hcm ⟨h3, rfl⟩ hc (by omega) hr hall | exact back_fff s A c l0 _ w he ls _ hsc ⟨a, rfl⟩ hcm ⟨h3, rfl⟩ hc (by omega) hr hall
end Go.Proofs.YtgdfgahpjebcaaaDoor
