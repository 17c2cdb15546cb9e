/-
  num.Join, walked. PRINTED by gen_nf.py.
-/
import Derived.Test.YtjaongknagmfiaaGreatDoorNd
set_option linter.unusedSimpArgs false
set_option linter.unusedVariables false
namespace Go.Proofs.YtjaongknagmfiaaGreatDoor
open Go.RowKit Go.Proofs.YtjaongknagmfiaaGreatDoorW.PrintWords Go.Proofs.YtjaongknagmfiaaGreatDoor.PT

/-- Parts that are in no normal form. -/
def joinBad (p : Bool × List UInt8 × Int) : Prop := (p.2.1.takeWhile isD).length < p.2.1.length ∨ (0 < p.2.1.length ∧ (p.2.1.head? = some 48 ∨ p.2.1.getLast? = some 48)) ∨ (p.2.1.length = 0 ∧ (p.2.2 ≠ 0 ∨ p.1 = true))
instance (p : Bool × List UInt8 × Int) : Decidable (joinBad p) := by unfold joinBad; infer_instance
/-- A normal form's bytes. -/
def joinS (p : Bool × List UInt8 × Int) : List UInt8 := (if p.1 = true then 45 :: p.2.1 else p.2.1) ++ (if p.2.2 ≠ 0 then 101 :: Lib.itoa p.2.2 else [])
/-- What num.Join answers. -/
def joinL (p : Bool × List UInt8 × Int) : List UInt8 × Int :=
  if joinBad p then ([], 1) else if p.2.2 < -999999 ∨ 999999 < p.2.2 then ([], 5) else if p.2.1.length = 0 then ([48], 0)
  else if 1000 < (joinS p).length then ([], 2) else (joinS p, 0)
theorem idxn (s : List UInt8) (m : Nat) (h : m < (B s).size) (c : UInt8) (hs : s[m]? = some c) : (((B s)[m]'h).toNat : Int) = c.toNat := by
  have h' : m < s.length := h
  rw [List.getElem?_eq_getElem h'] at hs
  injection hs with hs
  subst hs; rfl
theorem itoa_any (x : Int) (h0 : -9223372036854775808 ≤ x) (h1 : x ≤ 9223372036854775807) (w : World) (he : Env w) : Calls Tryz.prog 51 #[.int .i64 x] w fun e w' => e = .returned (.string (B (Lib.itoa x))) ∧ Below w.heap.size w w' :=
  (Tryz.strconv_Itoa x h0 h1 w he.tab).mono fun e w' ⟨h, k, os, hw⟩ => ⟨h, by subst hw; exact bl_grow (bl_drewN (Below.refl _ _) _) _⟩


set_option maxHeartbeats 8000000 in
set_option maxRecDepth 100000 in
theorem join_bad (n : Bool) (d : List UInt8) (x : Int) (w : World) (hd : d.length ≤ 100000) (hx0 : -9223372036854775808 ≤ x) (hx1 : x ≤ 9223372036854775807) (he : Env w) (hA : (d.takeWhile isD).length < d.length) :
    Calls Tryz.prog 24 #[.agg #[.bool n, .string (B d), .int .i64 x]] w fun e w' => e = .returned (.tuple #[.string ⟨#[]⟩, .int .i64 1]) ∧ Below w.heap.size w w' := by
  obtain ⟨k, hk⟩ : ∃ k, (d.takeWhile isD).length = k := ⟨_, rfl⟩
  have HK := Aside0.mk hk
  have hkl : k ≤ d.length := by rw [← hk]; exact tw_len _ _
  have hbk := Aside0.mk (bl_alloc (Below.refl w.heap.size w) (.cells #[.bool n, .string (B d), .int .i64 x] 24))
  have he2 := Aside0.mk (he.below hbk.out he.size)
  have z1 : (B d).size = d.length := rfl
  clear he
  have qA : ((k : Int) < (d.length : Int)) = True := eq_true (by omega)
  clear hk
  go_enter Tryz.func24, Tryz.ntmps24
  go_wp2_with (first
    | (go_at_call 40; (with_reducible refine (run_any d (by omega) k HK.out _).mono ?_); rintro e w1 ⟨rfl, ⟨nd, rfl⟩⟩))
  go_ret2
  exact ⟨rfl, by repeat (first | exact Below.refl _ _ | refine bl_drewN ?_ _ | refine bl_alloc ?_ _)⟩
set_option maxHeartbeats 8000000 in
set_option maxRecDepth 100000 in
theorem join_nil_x (n : Bool) (d : List UInt8) (x : Int) (w : World) (hd : d.length ≤ 100000) (hx0 : -9223372036854775808 ≤ x) (hx1 : x ≤ 9223372036854775807) (he : Env w) (hz : d.length = 0) (hx : x ≠ 0) :
    Calls Tryz.prog 24 #[.agg #[.bool n, .string (B d), .int .i64 x]] w fun e w' => e = .returned (.tuple #[.string ⟨#[]⟩, .int .i64 1]) ∧ Below w.heap.size w w' := by
  obtain ⟨k, hk⟩ : ∃ k, (d.takeWhile isD).length = k := ⟨_, rfl⟩
  have HK := Aside0.mk hk
  have hkl : k ≤ d.length := by rw [← hk]; exact tw_len _ _
  have hbk := Aside0.mk (bl_alloc (Below.refl w.heap.size w) (.cells #[.bool n, .string (B d), .int .i64 x] 24))
  have he2 := Aside0.mk (he.below hbk.out he.size)
  have z1 : (B d).size = d.length := rfl
  clear he
  have qz : d.length = 0 := hz
  have qA : ((k : Int) < (d.length : Int)) = False := eq_false (by omega)
  have qg : ((0 : Int) < (d.length : Int)) = False := eq_false (by omega)
  have qe : ((d.length : Int) == 0) = true := by simp [hz]
  clear hz
  have qx : (x != 0) = true := by simpa using hx
  clear hk
  go_enter Tryz.func24, Tryz.ntmps24
  go_wp2_with (first
    | (go_at_call 40; (with_reducible refine (run_any d (by omega) k HK.out _).mono ?_); rintro e w1 ⟨rfl, ⟨nd, rfl⟩⟩))
  go_ret2
  exact ⟨rfl, by repeat (first | exact Below.refl _ _ | refine bl_drewN ?_ _ | refine bl_alloc ?_ _)⟩
set_option maxHeartbeats 8000000 in
set_option maxRecDepth 100000 in
theorem join_nil_n (n : Bool) (d : List UInt8) (x : Int) (w : World) (hd : d.length ≤ 100000) (hx0 : -9223372036854775808 ≤ x) (hx1 : x ≤ 9223372036854775807) (he : Env w) (hz : d.length = 0) (hx : x = 0) (hn : n = true) :
    Calls Tryz.prog 24 #[.agg #[.bool n, .string (B d), .int .i64 x]] w fun e w' => e = .returned (.tuple #[.string ⟨#[]⟩, .int .i64 1]) ∧ Below w.heap.size w w' := by
  obtain ⟨k, hk⟩ : ∃ k, (d.takeWhile isD).length = k := ⟨_, rfl⟩
  have HK := Aside0.mk hk
  have hkl : k ≤ d.length := by rw [← hk]; exact tw_len _ _
  have hbk := Aside0.mk (bl_alloc (Below.refl w.heap.size w) (.cells #[.bool n, .string (B d), .int .i64 x] 24))
  have he2 := Aside0.mk (he.below hbk.out he.size)
  have z1 : (B d).size = d.length := rfl
  clear he
  subst hx hn
  have qz : d.length = 0 := hz
  have qA : ((k : Int) < (d.length : Int)) = False := eq_false (by omega)
  have qg : ((0 : Int) < (d.length : Int)) = False := eq_false (by omega)
  have qe : ((d.length : Int) == 0) = true := by simp [hz]
  clear hz
  clear hk
  go_enter Tryz.func24, Tryz.ntmps24
  go_wp2_with (first
    | (go_at_call 40; (with_reducible refine (run_any d (by omega) k HK.out _).mono ?_); rintro e w1 ⟨rfl, ⟨nd, rfl⟩⟩))
  go_ret2
  exact ⟨rfl, by repeat (first | exact Below.refl _ _ | refine bl_drewN ?_ _ | refine bl_alloc ?_ _)⟩
set_option maxHeartbeats 8000000 in
set_option maxRecDepth 100000 in
theorem join_nil (n : Bool) (d : List UInt8) (x : Int) (w : World) (hd : d.length ≤ 100000) (hx0 : -9223372036854775808 ≤ x) (hx1 : x ≤ 9223372036854775807) (he : Env w) (hz : d.length = 0) (hx : x = 0) (hn : n = false) :
    Calls Tryz.prog 24 #[.agg #[.bool n, .string (B d), .int .i64 x]] w fun e w' => e = .returned (.tuple #[.string ⟨#[48]⟩, .int .i64 0]) ∧ Below w.heap.size w w' := by
  obtain ⟨k, hk⟩ : ∃ k, (d.takeWhile isD).length = k := ⟨_, rfl⟩
  have HK := Aside0.mk hk
  have hkl : k ≤ d.length := by rw [← hk]; exact tw_len _ _
  have hbk := Aside0.mk (bl_alloc (Below.refl w.heap.size w) (.cells #[.bool n, .string (B d), .int .i64 x] 24))
  have he2 := Aside0.mk (he.below hbk.out he.size)
  have z1 : (B d).size = d.length := rfl
  clear he
  subst hx hn
  have qz : d.length = 0 := hz
  have qA : ((k : Int) < (d.length : Int)) = False := eq_false (by omega)
  have qg : ((0 : Int) < (d.length : Int)) = False := eq_false (by omega)
  have qe : ((d.length : Int) == 0) = true := by simp [hz]
  clear hz
  clear hk
  go_enter Tryz.func24, Tryz.ntmps24
  go_wp2_with (first
    | (go_at_call 40; (with_reducible refine (run_any d (by omega) k HK.out _).mono ?_); rintro e w1 ⟨rfl, ⟨nd, rfl⟩⟩))
  go_ret2
  exact ⟨rfl, by repeat (first | exact Below.refl _ _ | refine bl_drewN ?_ _ | refine bl_alloc ?_ _)⟩
set_option maxHeartbeats 8000000 in
set_option maxRecDepth 100000 in
theorem join_head (n : Bool) (d : List UInt8) (x : Int) (w : World) (hd : d.length ≤ 100000) (hx0 : -9223372036854775808 ≤ x) (hx1 : x ≤ 9223372036854775807) (he : Env w) (hk9 : (d.takeWhile isD).length = d.length) (hz : 0 < d.length) (c : UInt8) (hc : d[0]? = some c) (h48 : c = 48) :
    Calls Tryz.prog 24 #[.agg #[.bool n, .string (B d), .int .i64 x]] w fun e w' => e = .returned (.tuple #[.string ⟨#[]⟩, .int .i64 1]) ∧ Below w.heap.size w w' := by
  obtain ⟨k, hk⟩ : ∃ k, (d.takeWhile isD).length = k := ⟨_, rfl⟩
  have HK := Aside0.mk hk
  have hkl : k ≤ d.length := by rw [← hk]; exact tw_len _ _
  have hbk := Aside0.mk (bl_alloc (Below.refl w.heap.size w) (.cells #[.bool n, .string (B d), .int .i64 x] 24))
  have he2 := Aside0.mk (he.below hbk.out he.size)
  have z1 : (B d).size = d.length := rfl
  clear he
  have q48 : ((c.toNat : Int) == 48) = true := by subst h48; rfl
  have qA : ((k : Int) < (d.length : Int)) = False := eq_false (by omega)
  have hi : 0 < (B d).size := hz
  have qg : ((0 : Int) < (d.length : Int)) = True := eq_true (by omega)
  have qe : ((d.length : Int) == 0) = false := beq_eq_false_iff_ne.mpr (by omega)
  have q5 := idxn d 0 hi c hc
  clear h48 hc
  clear hk
  go_enter Tryz.func24, Tryz.ntmps24
  go_wp2_with (first
    | (go_at_call 40; (with_reducible refine (run_any d (by omega) k HK.out _).mono ?_); rintro e w1 ⟨rfl, ⟨nd, rfl⟩⟩))
  go_ret2
  exact ⟨rfl, by repeat (first | exact Below.refl _ _ | refine bl_drewN ?_ _ | refine bl_alloc ?_ _)⟩
set_option maxHeartbeats 8000000 in
set_option maxRecDepth 100000 in
theorem join_last (n : Bool) (d : List UInt8) (x : Int) (w : World) (hd : d.length ≤ 100000) (hx0 : -9223372036854775808 ≤ x) (hx1 : x ≤ 9223372036854775807) (he : Env w) (hk9 : (d.takeWhile isD).length = d.length) (hz : 0 < d.length) (c : UInt8) (hc : d[0]? = some c) (hc48 : ¬ c = 48) (e : UInt8) (m : Nat) (hm : m + 1 = d.length) (he8 : d[m]? = some e) (h48 : e = 48) :
    Calls Tryz.prog 24 #[.agg #[.bool n, .string (B d), .int .i64 x]] w fun e w' => e = .returned (.tuple #[.string ⟨#[]⟩, .int .i64 1]) ∧ Below w.heap.size w w' := by
  obtain ⟨k, hk⟩ : ∃ k, (d.takeWhile isD).length = k := ⟨_, rfl⟩
  have HK := Aside0.mk hk
  have hkl : k ≤ d.length := by rw [← hk]; exact tw_len _ _
  have hbk := Aside0.mk (bl_alloc (Below.refl w.heap.size w) (.cells #[.bool n, .string (B d), .int .i64 x] 24))
  have he2 := Aside0.mk (he.below hbk.out he.size)
  have z1 : (B d).size = d.length := rfl
  clear he
  have q48 : ((e.toNat : Int) == 48) = true := by subst h48; rfl
  have hca : ¬ (c.toNat : Int) = 48 := fun h => hc48 (UInt8.toNat_inj.1 (by show c.toNat = 48; omega))
  have hcb : ((c.toNat : Int) == 48) = false := by simpa using hca
  have qA : ((k : Int) < (d.length : Int)) = False := eq_false (by omega)
  have hi : 0 < (B d).size := hz
  have qg : ((0 : Int) < (d.length : Int)) = True := eq_true (by omega)
  have qe : ((d.length : Int) == 0) = false := beq_eq_false_iff_ne.mpr (by omega)
  have q5 := idxn d 0 hi c hc
  have hj : m < (B d).size := by rw [B_size]; omega
  have q6 := idxn d m hj e he8
  have q7 : ((d.length : Int) - 1).toNat = m := by omega
  have q8 : ((d.length : Int) - 1) = (m : Int) := by omega
  clear h48 hc he8
  clear hk
  go_enter Tryz.func24, Tryz.ntmps24
  go_wp2_with (first
    | (go_at_call 40; (with_reducible refine (run_any d (by omega) k HK.out _).mono ?_); rintro e w1 ⟨rfl, ⟨nd, rfl⟩⟩))
  go_ret2
  exact ⟨rfl, by repeat (first | exact Below.refl _ _ | refine bl_drewN ?_ _ | refine bl_alloc ?_ _)⟩
set_option maxHeartbeats 8000000 in
set_option maxRecDepth 100000 in
theorem join_low (n : Bool) (d : List UInt8) (x : Int) (w : World) (hd : d.length ≤ 100000) (hx0 : -9223372036854775808 ≤ x) (hx1 : x ≤ 9223372036854775807) (he : Env w) (hk9 : (d.takeWhile isD).length = d.length) (hz : 0 < d.length) (c : UInt8) (hc : d[0]? = some c) (hc48 : ¬ c = 48) (e : UInt8) (m : Nat) (hm : m + 1 = d.length) (he8 : d[m]? = some e) (he48 : ¬ e = 48) (hx : x < -999999) :
    Calls Tryz.prog 24 #[.agg #[.bool n, .string (B d), .int .i64 x]] w fun e w' => e = .returned (.tuple #[.string ⟨#[]⟩, .int .i64 5]) ∧ Below w.heap.size w w' := by
  obtain ⟨k, hk⟩ : ∃ k, (d.takeWhile isD).length = k := ⟨_, rfl⟩
  have HK := Aside0.mk hk
  have hkl : k ≤ d.length := by rw [← hk]; exact tw_len _ _
  have hbk := Aside0.mk (bl_alloc (Below.refl w.heap.size w) (.cells #[.bool n, .string (B d), .int .i64 x] 24))
  have he2 := Aside0.mk (he.below hbk.out he.size)
  have z1 : (B d).size = d.length := rfl
  clear he
  have hea : ¬ (e.toNat : Int) = 48 := fun h => he48 (UInt8.toNat_inj.1 (by show e.toNat = 48; omega))
  have heb : ((e.toNat : Int) == 48) = false := by simpa using hea
  have hca : ¬ (c.toNat : Int) = 48 := fun h => hc48 (UInt8.toNat_inj.1 (by show c.toNat = 48; omega))
  have hcb : ((c.toNat : Int) == 48) = false := by simpa using hca
  have qA : ((k : Int) < (d.length : Int)) = False := eq_false (by omega)
  have hi : 0 < (B d).size := hz
  have qg : ((0 : Int) < (d.length : Int)) = True := eq_true (by omega)
  have qe : ((d.length : Int) == 0) = false := beq_eq_false_iff_ne.mpr (by omega)
  have q5 := idxn d 0 hi c hc
  have hj : m < (B d).size := by rw [B_size]; omega
  have q6 := idxn d m hj e he8
  have q7 : ((d.length : Int) - 1).toNat = m := by omega
  have q8 : ((d.length : Int) - 1) = (m : Int) := by omega
  clear hc he8
  have qx : (x < -999999) = True := eq_true hx
  clear hk
  go_enter Tryz.func24, Tryz.ntmps24
  go_wp2_with (first
    | (go_at_call 40; (with_reducible refine (run_any d (by omega) k HK.out _).mono ?_); rintro e w1 ⟨rfl, ⟨nd, rfl⟩⟩))
  go_ret2
  exact ⟨rfl, by repeat (first | exact Below.refl _ _ | refine bl_drewN ?_ _ | refine bl_alloc ?_ _)⟩
set_option maxHeartbeats 8000000 in
set_option maxRecDepth 100000 in
theorem join_high (n : Bool) (d : List UInt8) (x : Int) (w : World) (hd : d.length ≤ 100000) (hx0 : -9223372036854775808 ≤ x) (hx1 : x ≤ 9223372036854775807) (he : Env w) (hk9 : (d.takeWhile isD).length = d.length) (hz : 0 < d.length) (c : UInt8) (hc : d[0]? = some c) (hc48 : ¬ c = 48) (e : UInt8) (m : Nat) (hm : m + 1 = d.length) (he8 : d[m]? = some e) (he48 : ¬ e = 48) (hx : 999999 < x) :
    Calls Tryz.prog 24 #[.agg #[.bool n, .string (B d), .int .i64 x]] w fun e w' => e = .returned (.tuple #[.string ⟨#[]⟩, .int .i64 5]) ∧ Below w.heap.size w w' := by
  obtain ⟨k, hk⟩ : ∃ k, (d.takeWhile isD).length = k := ⟨_, rfl⟩
  have HK := Aside0.mk hk
  have hkl : k ≤ d.length := by rw [← hk]; exact tw_len _ _
  have hbk := Aside0.mk (bl_alloc (Below.refl w.heap.size w) (.cells #[.bool n, .string (B d), .int .i64 x] 24))
  have he2 := Aside0.mk (he.below hbk.out he.size)
  have z1 : (B d).size = d.length := rfl
  clear he
  have hea : ¬ (e.toNat : Int) = 48 := fun h => he48 (UInt8.toNat_inj.1 (by show e.toNat = 48; omega))
  have heb : ((e.toNat : Int) == 48) = false := by simpa using hea
  have hca : ¬ (c.toNat : Int) = 48 := fun h => hc48 (UInt8.toNat_inj.1 (by show c.toNat = 48; omega))
  have hcb : ((c.toNat : Int) == 48) = false := by simpa using hca
  have qA : ((k : Int) < (d.length : Int)) = False := eq_false (by omega)
  have hi : 0 < (B d).size := hz
  have qg : ((0 : Int) < (d.length : Int)) = True := eq_true (by omega)
  have qe : ((d.length : Int) == 0) = false := beq_eq_false_iff_ne.mpr (by omega)
  have q5 := idxn d 0 hi c hc
  have hj : m < (B d).size := by rw [B_size]; omega
  have q6 := idxn d m hj e he8
  have q7 : ((d.length : Int) - 1).toNat = m := by omega
  have q8 : ((d.length : Int) - 1) = (m : Int) := by omega
  clear hc he8
  have qx : (x < -999999) = False := eq_false (by omega)
  have qy : ((999999 : Int) < x) = True := eq_true hx
  clear hk
  go_enter Tryz.func24, Tryz.ntmps24
  go_wp2_with (first
    | (go_at_call 40; (with_reducible refine (run_any d (by omega) k HK.out _).mono ?_); rintro e w1 ⟨rfl, ⟨nd, rfl⟩⟩))
  go_ret2
  exact ⟨rfl, by repeat (first | exact Below.refl _ _ | refine bl_drewN ?_ _ | refine bl_alloc ?_ _)⟩
set_option maxHeartbeats 8000000 in
set_option maxRecDepth 100000 in
theorem join_z00 (n : Bool) (d : List UInt8) (x : Int) (w : World) (hd : d.length ≤ 100000) (hx0 : -9223372036854775808 ≤ x) (hx1 : x ≤ 9223372036854775807) (he : Env w) (hk9 : (d.takeWhile isD).length = d.length) (hz : 0 < d.length) (c : UInt8) (hc : d[0]? = some c) (hc48 : ¬ c = 48) (e : UInt8) (m : Nat) (hm : m + 1 = d.length) (he8 : d[m]? = some e) (he48 : ¬ e = 48) (hx : x = 0) (hn : n = false) (hl : ¬ 1000 < d.length) :
    Calls Tryz.prog 24 #[.agg #[.bool n, .string (B d), .int .i64 x]] w fun e w' => e = .returned (.tuple #[.string (B d), .int .i64 0]) ∧ Below w.heap.size w w' := by
  obtain ⟨k, hk⟩ : ∃ k, (d.takeWhile isD).length = k := ⟨_, rfl⟩
  have HK := Aside0.mk hk
  have hkl : k ≤ d.length := by rw [← hk]; exact tw_len _ _
  have hbk := Aside0.mk (bl_alloc (Below.refl w.heap.size w) (.cells #[.bool n, .string (B d), .int .i64 x] 24))
  have he2 := Aside0.mk (he.below hbk.out he.size)
  have z1 : (B d).size = d.length := rfl
  clear he
  subst hx
  subst hn
  have hea : ¬ (e.toNat : Int) = 48 := fun h => he48 (UInt8.toNat_inj.1 (by show e.toNat = 48; omega))
  have heb : ((e.toNat : Int) == 48) = false := by simpa using hea
  have hca : ¬ (c.toNat : Int) = 48 := fun h => hc48 (UInt8.toNat_inj.1 (by show c.toNat = 48; omega))
  have hcb : ((c.toNat : Int) == 48) = false := by simpa using hca
  have qA : ((k : Int) < (d.length : Int)) = False := eq_false (by omega)
  have hi : 0 < (B d).size := hz
  have qg : ((0 : Int) < (d.length : Int)) = True := eq_true (by omega)
  have qe : ((d.length : Int) == 0) = false := beq_eq_false_iff_ne.mpr (by omega)
  have q5 := idxn d 0 hi c hc
  have hj : m < (B d).size := by rw [B_size]; omega
  have q6 := idxn d m hj e he8
  have q7 : ((d.length : Int) - 1).toNat = m := by omega
  have q8 : ((d.length : Int) - 1) = (m : Int) := by omega
  clear hc he8
  have n4 : (B d).size = d.length := rfl
  have n5 : ((1000 : Int) < ((d.length : Int))) = False := eq_false (by omega)
  clear hk
  go_enter Tryz.func24, Tryz.ntmps24
  go_wp2_with (first
    | (go_at_call 40; (with_reducible refine (run_any d (by omega) k HK.out _).mono ?_); rintro e w1 ⟨rfl, ⟨nd, rfl⟩⟩))
  go_ret2
  exact ⟨rfl, by repeat (first | exact Below.refl _ _ | refine bl_drewN ?_ _ | refine bl_alloc ?_ _)⟩
set_option maxHeartbeats 8000000 in
set_option maxRecDepth 100000 in
theorem join_z01 (n : Bool) (d : List UInt8) (x : Int) (w : World) (hd : d.length ≤ 100000) (hx0 : -9223372036854775808 ≤ x) (hx1 : x ≤ 9223372036854775807) (he : Env w) (hk9 : (d.takeWhile isD).length = d.length) (hz : 0 < d.length) (c : UInt8) (hc : d[0]? = some c) (hc48 : ¬ c = 48) (e : UInt8) (m : Nat) (hm : m + 1 = d.length) (he8 : d[m]? = some e) (he48 : ¬ e = 48) (hx : x = 0) (hn : n = false) (hl : 1000 < d.length) :
    Calls Tryz.prog 24 #[.agg #[.bool n, .string (B d), .int .i64 x]] w fun e w' => e = .returned (.tuple #[.string ⟨#[]⟩, .int .i64 2]) ∧ Below w.heap.size w w' := by
  obtain ⟨k, hk⟩ : ∃ k, (d.takeWhile isD).length = k := ⟨_, rfl⟩
  have HK := Aside0.mk hk
  have hkl : k ≤ d.length := by rw [← hk]; exact tw_len _ _
  have hbk := Aside0.mk (bl_alloc (Below.refl w.heap.size w) (.cells #[.bool n, .string (B d), .int .i64 x] 24))
  have he2 := Aside0.mk (he.below hbk.out he.size)
  have z1 : (B d).size = d.length := rfl
  clear he
  subst hx
  subst hn
  have hea : ¬ (e.toNat : Int) = 48 := fun h => he48 (UInt8.toNat_inj.1 (by show e.toNat = 48; omega))
  have heb : ((e.toNat : Int) == 48) = false := by simpa using hea
  have hca : ¬ (c.toNat : Int) = 48 := fun h => hc48 (UInt8.toNat_inj.1 (by show c.toNat = 48; omega))
  have hcb : ((c.toNat : Int) == 48) = false := by simpa using hca
  have qA : ((k : Int) < (d.length : Int)) = False := eq_false (by omega)
  have hi : 0 < (B d).size := hz
  have qg : ((0 : Int) < (d.length : Int)) = True := eq_true (by omega)
  have qe : ((d.length : Int) == 0) = false := beq_eq_false_iff_ne.mpr (by omega)
  have q5 := idxn d 0 hi c hc
  have hj : m < (B d).size := by rw [B_size]; omega
  have q6 := idxn d m hj e he8
  have q7 : ((d.length : Int) - 1).toNat = m := by omega
  have q8 : ((d.length : Int) - 1) = (m : Int) := by omega
  clear hc he8
  have n4 : (B d).size = d.length := rfl
  have n5 : ((1000 : Int) < ((d.length : Int))) = True := eq_true (by omega)
  clear hk
  go_enter Tryz.func24, Tryz.ntmps24
  go_wp2_with (first
    | (go_at_call 40; (with_reducible refine (run_any d (by omega) k HK.out _).mono ?_); rintro e w1 ⟨rfl, ⟨nd, rfl⟩⟩))
  go_ret2
  exact ⟨rfl, by repeat (first | exact Below.refl _ _ | refine bl_drewN ?_ _ | refine bl_alloc ?_ _)⟩
set_option maxHeartbeats 8000000 in
set_option maxRecDepth 100000 in
theorem join_z10 (n : Bool) (d : List UInt8) (x : Int) (w : World) (hd : d.length ≤ 100000) (hx0 : -9223372036854775808 ≤ x) (hx1 : x ≤ 9223372036854775807) (he : Env w) (hk9 : (d.takeWhile isD).length = d.length) (hz : 0 < d.length) (c : UInt8) (hc : d[0]? = some c) (hc48 : ¬ c = 48) (e : UInt8) (m : Nat) (hm : m + 1 = d.length) (he8 : d[m]? = some e) (he48 : ¬ e = 48) (hx : x = 0) (hn : n = true) (hl : ¬ 1000 < (45 :: d).length) :
    Calls Tryz.prog 24 #[.agg #[.bool n, .string (B d), .int .i64 x]] w fun e w' => e = .returned (.tuple #[.string (B (45 :: d)), .int .i64 0]) ∧ Below w.heap.size w w' := by
  obtain ⟨k, hk⟩ : ∃ k, (d.takeWhile isD).length = k := ⟨_, rfl⟩
  have HK := Aside0.mk hk
  have hkl : k ≤ d.length := by rw [← hk]; exact tw_len _ _
  have hbk := Aside0.mk (bl_alloc (Below.refl w.heap.size w) (.cells #[.bool n, .string (B d), .int .i64 x] 24))
  have he2 := Aside0.mk (he.below hbk.out he.size)
  have z1 : (B d).size = d.length := rfl
  clear he
  subst hx
  subst hn
  have n1 : (⟨#[45]⟩ : ByteArray) ++ B d = B (45 :: d) := B_app [45] d
  have n2 : (9223372036854775807 < 1 + d.length) = False := eq_false (by omega)
  have n3 : (1 + d.length ≤ 9223372036854775807) = True := eq_true (by omega)
  rw [List.length_cons] at hl
  have hea : ¬ (e.toNat : Int) = 48 := fun h => he48 (UInt8.toNat_inj.1 (by show e.toNat = 48; omega))
  have heb : ((e.toNat : Int) == 48) = false := by simpa using hea
  have hca : ¬ (c.toNat : Int) = 48 := fun h => hc48 (UInt8.toNat_inj.1 (by show c.toNat = 48; omega))
  have hcb : ((c.toNat : Int) == 48) = false := by simpa using hca
  have qA : ((k : Int) < (d.length : Int)) = False := eq_false (by omega)
  have hi : 0 < (B d).size := hz
  have qg : ((0 : Int) < (d.length : Int)) = True := eq_true (by omega)
  have qe : ((d.length : Int) == 0) = false := beq_eq_false_iff_ne.mpr (by omega)
  have q5 := idxn d 0 hi c hc
  have hj : m < (B d).size := by rw [B_size]; omega
  have q6 := idxn d m hj e he8
  have q7 : ((d.length : Int) - 1).toNat = m := by omega
  have q8 : ((d.length : Int) - 1) = (m : Int) := by omega
  clear hc he8
  have n4 : (B (45 :: d)).size = (d.length + 1) := rfl
  have n5 : ((1000 : Int) < (((d.length + 1 : Nat) : Int))) = False := eq_false (by omega)
  clear hk
  go_enter Tryz.func24, Tryz.ntmps24
  go_wp2_with (first
    | (go_at_call 40; (with_reducible refine (run_any d (by omega) k HK.out _).mono ?_); rintro e w1 ⟨rfl, ⟨nd, rfl⟩⟩))
  go_ret2
  exact ⟨rfl, by repeat (first | exact Below.refl _ _ | refine bl_drewN ?_ _ | refine bl_alloc ?_ _)⟩
set_option maxHeartbeats 8000000 in
set_option maxRecDepth 100000 in
theorem join_z11 (n : Bool) (d : List UInt8) (x : Int) (w : World) (hd : d.length ≤ 100000) (hx0 : -9223372036854775808 ≤ x) (hx1 : x ≤ 9223372036854775807) (he : Env w) (hk9 : (d.takeWhile isD).length = d.length) (hz : 0 < d.length) (c : UInt8) (hc : d[0]? = some c) (hc48 : ¬ c = 48) (e : UInt8) (m : Nat) (hm : m + 1 = d.length) (he8 : d[m]? = some e) (he48 : ¬ e = 48) (hx : x = 0) (hn : n = true) (hl : 1000 < (45 :: d).length) :
    Calls Tryz.prog 24 #[.agg #[.bool n, .string (B d), .int .i64 x]] w fun e w' => e = .returned (.tuple #[.string ⟨#[]⟩, .int .i64 2]) ∧ Below w.heap.size w w' := by
  obtain ⟨k, hk⟩ : ∃ k, (d.takeWhile isD).length = k := ⟨_, rfl⟩
  have HK := Aside0.mk hk
  have hkl : k ≤ d.length := by rw [← hk]; exact tw_len _ _
  have hbk := Aside0.mk (bl_alloc (Below.refl w.heap.size w) (.cells #[.bool n, .string (B d), .int .i64 x] 24))
  have he2 := Aside0.mk (he.below hbk.out he.size)
  have z1 : (B d).size = d.length := rfl
  clear he
  subst hx
  subst hn
  have n1 : (⟨#[45]⟩ : ByteArray) ++ B d = B (45 :: d) := B_app [45] d
  have n2 : (9223372036854775807 < 1 + d.length) = False := eq_false (by omega)
  have n3 : (1 + d.length ≤ 9223372036854775807) = True := eq_true (by omega)
  rw [List.length_cons] at hl
  have hea : ¬ (e.toNat : Int) = 48 := fun h => he48 (UInt8.toNat_inj.1 (by show e.toNat = 48; omega))
  have heb : ((e.toNat : Int) == 48) = false := by simpa using hea
  have hca : ¬ (c.toNat : Int) = 48 := fun h => hc48 (UInt8.toNat_inj.1 (by show c.toNat = 48; omega))
  have hcb : ((c.toNat : Int) == 48) = false := by simpa using hca
  have qA : ((k : Int) < (d.length : Int)) = False := eq_false (by omega)
  have hi : 0 < (B d).size := hz
  have qg : ((0 : Int) < (d.length : Int)) = True := eq_true (by omega)
  have qe : ((d.length : Int) == 0) = false := beq_eq_false_iff_ne.mpr (by omega)
  have q5 := idxn d 0 hi c hc
  have hj : m < (B d).size := by rw [B_size]; omega
  have q6 := idxn d m hj e he8
  have q7 : ((d.length : Int) - 1).toNat = m := by omega
  have q8 : ((d.length : Int) - 1) = (m : Int) := by omega
  clear hc he8
  have n4 : (B (45 :: d)).size = (d.length + 1) := rfl
  have n5 : ((1000 : Int) < (((d.length + 1 : Nat) : Int))) = True := eq_true (by omega)
  clear hk
  go_enter Tryz.func24, Tryz.ntmps24
  go_wp2_with (first
    | (go_at_call 40; (with_reducible refine (run_any d (by omega) k HK.out _).mono ?_); rintro e w1 ⟨rfl, ⟨nd, rfl⟩⟩))
  go_ret2
  exact ⟨rfl, by repeat (first | exact Below.refl _ _ | refine bl_drewN ?_ _ | refine bl_alloc ?_ _)⟩
set_option maxHeartbeats 8000000 in
set_option maxRecDepth 100000 in
theorem join_e00 (n : Bool) (d : List UInt8) (x : Int) (w : World) (hd : d.length ≤ 100000) (hx0 : -9223372036854775808 ≤ x) (hx1 : x ≤ 9223372036854775807) (he : Env w) (hk9 : (d.takeWhile isD).length = d.length) (hz : 0 < d.length) (c : UInt8) (hc : d[0]? = some c) (hc48 : ¬ c = 48) (e : UInt8) (m : Nat) (hm : m + 1 = d.length) (he8 : d[m]? = some e) (he48 : ¬ e = 48) (hr : -999999 ≤ x ∧ x ≤ 999999) (hx : x ≠ 0) (hn : n = false) (hl : ¬ 1000 < (d ++ (101 :: Lib.itoa x)).length) :
    Calls Tryz.prog 24 #[.agg #[.bool n, .string (B d), .int .i64 x]] w fun e w' => e = .returned (.tuple #[.string (B (d ++ (101 :: Lib.itoa x))), .int .i64 0]) ∧ Below w.heap.size w w' := by
  obtain ⟨k, hk⟩ : ∃ k, (d.takeWhile isD).length = k := ⟨_, rfl⟩
  have HK := Aside0.mk hk
  have hkl : k ≤ d.length := by rw [← hk]; exact tw_len _ _
  have hbk := Aside0.mk (bl_alloc (Below.refl w.heap.size w) (.cells #[.bool n, .string (B d), .int .i64 x] 24))
  have he2 := Aside0.mk (he.below hbk.out he.size)
  have z1 : (B d).size = d.length := rfl
  clear he
  subst hn
  obtain ⟨it, hit⟩ : ∃ it, Lib.itoa x = it := ⟨_, rfl⟩
  have hil : it.length ≤ 21 := by rw [← hit]; exact Lib.itoa_length_le x hx0 hx1
  have HI := Aside0.mk hit
  rw [hit] at hl
  try rw [hit]
  have m1 : (⟨#[101]⟩ : ByteArray) ++ B it = B (101 :: it) := B_app [101] it
  have m2 : (9223372036854775807 < 1 + (B it).size) = False := eq_false (by rw [B_size]; omega)
  have m6 : (B (101 :: it)).size = it.length + 1 := rfl
  have m4 : (9223372036854775807 < d.length + (it.length + 1)) = False := eq_false (by omega)
  obtain ⟨T, hT⟩ : ∃ T, d ++ (101 :: it) = T := ⟨_, rfl⟩
  have m3 : B d ++ B (101 :: it) = B T := by rw [B_app, hT]
  rw [hT] at hl
  try rw [hT]
  have n4 : (B T).size = T.length := rfl
  have qn : (x != 0) = true := by simpa using hx
  clear hit hT
  have hea : ¬ (e.toNat : Int) = 48 := fun h => he48 (UInt8.toNat_inj.1 (by show e.toNat = 48; omega))
  have heb : ((e.toNat : Int) == 48) = false := by simpa using hea
  have hca : ¬ (c.toNat : Int) = 48 := fun h => hc48 (UInt8.toNat_inj.1 (by show c.toNat = 48; omega))
  have hcb : ((c.toNat : Int) == 48) = false := by simpa using hca
  have qA : ((k : Int) < (d.length : Int)) = False := eq_false (by omega)
  have hi : 0 < (B d).size := hz
  have qg : ((0 : Int) < (d.length : Int)) = True := eq_true (by omega)
  have qe : ((d.length : Int) == 0) = false := beq_eq_false_iff_ne.mpr (by omega)
  have q5 := idxn d 0 hi c hc
  have hj : m < (B d).size := by rw [B_size]; omega
  have q6 := idxn d m hj e he8
  have q7 : ((d.length : Int) - 1).toNat = m := by omega
  have q8 : ((d.length : Int) - 1) = (m : Int) := by omega
  clear hc he8
  have qx : (x < -999999) = False := eq_false (by omega)
  have qy : ((999999 : Int) < x) = False := eq_false (by omega)
  have n5 : ((1000 : Int) < (T.length : Int)) = False := eq_false (by omega)
  clear hk
  go_enter Tryz.func24, Tryz.ntmps24
  go_wp2_with (first
    | (go_at_call 40; (with_reducible refine (run_any d (by omega) k HK.out _).mono ?_); rintro e w1 ⟨rfl, ⟨nd, rfl⟩⟩)
    | (go_at_call 51; (with_reducible refine (itoa_any x hx0 hx1 _ (he2.out.below (below_drewN (Below.refl _ _) _) he2.out.size)).mono ?_); rintro e w2 ⟨rfl, hbi⟩; rw [HI.out]))
  go_ret2
  exact ⟨rfl, bl_trans (bl_drewN hbk.out _) hbi⟩
set_option maxHeartbeats 8000000 in
set_option maxRecDepth 100000 in
theorem join_e01 (n : Bool) (d : List UInt8) (x : Int) (w : World) (hd : d.length ≤ 100000) (hx0 : -9223372036854775808 ≤ x) (hx1 : x ≤ 9223372036854775807) (he : Env w) (hk9 : (d.takeWhile isD).length = d.length) (hz : 0 < d.length) (c : UInt8) (hc : d[0]? = some c) (hc48 : ¬ c = 48) (e : UInt8) (m : Nat) (hm : m + 1 = d.length) (he8 : d[m]? = some e) (he48 : ¬ e = 48) (hr : -999999 ≤ x ∧ x ≤ 999999) (hx : x ≠ 0) (hn : n = false) (hl : 1000 < (d ++ (101 :: Lib.itoa x)).length) :
    Calls Tryz.prog 24 #[.agg #[.bool n, .string (B d), .int .i64 x]] w fun e w' => e = .returned (.tuple #[.string ⟨#[]⟩, .int .i64 2]) ∧ Below w.heap.size w w' := by
  obtain ⟨k, hk⟩ : ∃ k, (d.takeWhile isD).length = k := ⟨_, rfl⟩
  have HK := Aside0.mk hk
  have hkl : k ≤ d.length := by rw [← hk]; exact tw_len _ _
  have hbk := Aside0.mk (bl_alloc (Below.refl w.heap.size w) (.cells #[.bool n, .string (B d), .int .i64 x] 24))
  have he2 := Aside0.mk (he.below hbk.out he.size)
  have z1 : (B d).size = d.length := rfl
  clear he
  subst hn
  obtain ⟨it, hit⟩ : ∃ it, Lib.itoa x = it := ⟨_, rfl⟩
  have hil : it.length ≤ 21 := by rw [← hit]; exact Lib.itoa_length_le x hx0 hx1
  have HI := Aside0.mk hit
  rw [hit] at hl
  try rw [hit]
  have m1 : (⟨#[101]⟩ : ByteArray) ++ B it = B (101 :: it) := B_app [101] it
  have m2 : (9223372036854775807 < 1 + (B it).size) = False := eq_false (by rw [B_size]; omega)
  have m6 : (B (101 :: it)).size = it.length + 1 := rfl
  have m4 : (9223372036854775807 < d.length + (it.length + 1)) = False := eq_false (by omega)
  obtain ⟨T, hT⟩ : ∃ T, d ++ (101 :: it) = T := ⟨_, rfl⟩
  have m3 : B d ++ B (101 :: it) = B T := by rw [B_app, hT]
  rw [hT] at hl
  try rw [hT]
  have n4 : (B T).size = T.length := rfl
  have qn : (x != 0) = true := by simpa using hx
  clear hit hT
  have hea : ¬ (e.toNat : Int) = 48 := fun h => he48 (UInt8.toNat_inj.1 (by show e.toNat = 48; omega))
  have heb : ((e.toNat : Int) == 48) = false := by simpa using hea
  have hca : ¬ (c.toNat : Int) = 48 := fun h => hc48 (UInt8.toNat_inj.1 (by show c.toNat = 48; omega))
  have hcb : ((c.toNat : Int) == 48) = false := by simpa using hca
  have qA : ((k : Int) < (d.length : Int)) = False := eq_false (by omega)
  have hi : 0 < (B d).size := hz
  have qg : ((0 : Int) < (d.length : Int)) = True := eq_true (by omega)
  have qe : ((d.length : Int) == 0) = false := beq_eq_false_iff_ne.mpr (by omega)
  have q5 := idxn d 0 hi c hc
  have hj : m < (B d).size := by rw [B_size]; omega
  have q6 := idxn d m hj e he8
  have q7 : ((d.length : Int) - 1).toNat = m := by omega
  have q8 : ((d.length : Int) - 1) = (m : Int) := by omega
  clear hc he8
  have qx : (x < -999999) = False := eq_false (by omega)
  have qy : ((999999 : Int) < x) = False := eq_false (by omega)
  have n5 : ((1000 : Int) < (T.length : Int)) = True := eq_true (by omega)
  clear hk
  go_enter Tryz.func24, Tryz.ntmps24
  go_wp2_with (first
    | (go_at_call 40; (with_reducible refine (run_any d (by omega) k HK.out _).mono ?_); rintro e w1 ⟨rfl, ⟨nd, rfl⟩⟩)
    | (go_at_call 51; (with_reducible refine (itoa_any x hx0 hx1 _ (he2.out.below (below_drewN (Below.refl _ _) _) he2.out.size)).mono ?_); rintro e w2 ⟨rfl, hbi⟩; rw [HI.out]))
  go_ret2
  exact ⟨rfl, bl_trans (bl_drewN hbk.out _) hbi⟩
set_option maxHeartbeats 8000000 in
set_option maxRecDepth 100000 in
theorem join_e10 (n : Bool) (d : List UInt8) (x : Int) (w : World) (hd : d.length ≤ 100000) (hx0 : -9223372036854775808 ≤ x) (hx1 : x ≤ 9223372036854775807) (he : Env w) (hk9 : (d.takeWhile isD).length = d.length) (hz : 0 < d.length) (c : UInt8) (hc : d[0]? = some c) (hc48 : ¬ c = 48) (e : UInt8) (m : Nat) (hm : m + 1 = d.length) (he8 : d[m]? = some e) (he48 : ¬ e = 48) (hr : -999999 ≤ x ∧ x ≤ 999999) (hx : x ≠ 0) (hn : n = true) (hl : ¬ 1000 < ((45 :: d) ++ (101 :: Lib.itoa x)).length) :
    Calls Tryz.prog 24 #[.agg #[.bool n, .string (B d), .int .i64 x]] w fun e w' => e = .returned (.tuple #[.string (B ((45 :: d) ++ (101 :: Lib.itoa x))), .int .i64 0]) ∧ Below w.heap.size w w' := by
  obtain ⟨k, hk⟩ : ∃ k, (d.takeWhile isD).length = k := ⟨_, rfl⟩
  have HK := Aside0.mk hk
  have hkl : k ≤ d.length := by rw [← hk]; exact tw_len _ _
  have hbk := Aside0.mk (bl_alloc (Below.refl w.heap.size w) (.cells #[.bool n, .string (B d), .int .i64 x] 24))
  have he2 := Aside0.mk (he.below hbk.out he.size)
  have z1 : (B d).size = d.length := rfl
  clear he
  subst hn
  have n1 : (⟨#[45]⟩ : ByteArray) ++ B d = B (45 :: d) := B_app [45] d
  have n2 : (9223372036854775807 < 1 + d.length) = False := eq_false (by omega)
  have n3 : (1 + d.length ≤ 9223372036854775807) = True := eq_true (by omega)
  have n6 : (B (45 :: d)).size = d.length + 1 := rfl
  obtain ⟨it, hit⟩ : ∃ it, Lib.itoa x = it := ⟨_, rfl⟩
  have hil : it.length ≤ 21 := by rw [← hit]; exact Lib.itoa_length_le x hx0 hx1
  have HI := Aside0.mk hit
  rw [hit] at hl
  try rw [hit]
  have m1 : (⟨#[101]⟩ : ByteArray) ++ B it = B (101 :: it) := B_app [101] it
  have m2 : (9223372036854775807 < 1 + (B it).size) = False := eq_false (by rw [B_size]; omega)
  have m6 : (B (101 :: it)).size = it.length + 1 := rfl
  have m4 : (9223372036854775807 < (d.length + 1) + (it.length + 1)) = False := eq_false (by omega)
  obtain ⟨T, hT⟩ : ∃ T, (45 :: d) ++ (101 :: it) = T := ⟨_, rfl⟩
  have m3 : B (45 :: d) ++ B (101 :: it) = B T := by rw [B_app, hT]
  rw [hT] at hl
  try rw [hT]
  have n4 : (B T).size = T.length := rfl
  have qn : (x != 0) = true := by simpa using hx
  clear hit hT
  have hea : ¬ (e.toNat : Int) = 48 := fun h => he48 (UInt8.toNat_inj.1 (by show e.toNat = 48; omega))
  have heb : ((e.toNat : Int) == 48) = false := by simpa using hea
  have hca : ¬ (c.toNat : Int) = 48 := fun h => hc48 (UInt8.toNat_inj.1 (by show c.toNat = 48; omega))
  have hcb : ((c.toNat : Int) == 48) = false := by simpa using hca
  have qA : ((k : Int) < (d.length : Int)) = False := eq_false (by omega)
  have hi : 0 < (B d).size := hz
  have qg : ((0 : Int) < (d.length : Int)) = True := eq_true (by omega)
  have qe : ((d.length : Int) == 0) = false := beq_eq_false_iff_ne.mpr (by omega)
  have q5 := idxn d 0 hi c hc
  have hj : m < (B d).size := by rw [B_size]; omega
  have q6 := idxn d m hj e he8
  have q7 : ((d.length : Int) - 1).toNat = m := by omega
  have q8 : ((d.length : Int) - 1) = (m : Int) := by omega
  clear hc he8
  have qx : (x < -999999) = False := eq_false (by omega)
  have qy : ((999999 : Int) < x) = False := eq_false (by omega)
  have n5 : ((1000 : Int) < (T.length : Int)) = False := eq_false (by omega)
  clear hk
  go_enter Tryz.func24, Tryz.ntmps24
  go_wp2_with (first
    | (go_at_call 40; (with_reducible refine (run_any d (by omega) k HK.out _).mono ?_); rintro e w1 ⟨rfl, ⟨nd, rfl⟩⟩)
    | (go_at_call 51; (with_reducible refine (itoa_any x hx0 hx1 _ (he2.out.below (below_drewN (Below.refl _ _) _) he2.out.size)).mono ?_); rintro e w2 ⟨rfl, hbi⟩; rw [HI.out]))
  go_ret2
  exact ⟨rfl, bl_trans (bl_drewN hbk.out _) hbi⟩
set_option maxHeartbeats 8000000 in
set_option maxRecDepth 100000 in
theorem join_e11 (n : Bool) (d : List UInt8) (x : Int) (w : World) (hd : d.length ≤ 100000) (hx0 : -9223372036854775808 ≤ x) (hx1 : x ≤ 9223372036854775807) (he : Env w) (hk9 : (d.takeWhile isD).length = d.length) (hz : 0 < d.length) (c : UInt8) (hc : d[0]? = some c) (hc48 : ¬ c = 48) (e : UInt8) (m : Nat) (hm : m + 1 = d.length) (he8 : d[m]? = some e) (he48 : ¬ e = 48) (hr : -999999 ≤ x ∧ x ≤ 999999) (hx : x ≠ 0) (hn : n = true) (hl : 1000 < ((45 :: d) ++ (101 :: Lib.itoa x)).length) :
    Calls Tryz.prog 24 #[.agg #[.bool n, .string (B d), .int .i64 x]] w fun e w' => e = .returned (.tuple #[.string ⟨#[]⟩, .int .i64 2]) ∧ Below w.heap.size w w' := by
  obtain ⟨k, hk⟩ : ∃ k, (d.takeWhile isD).length = k := ⟨_, rfl⟩
  have HK := Aside0.mk hk
  have hkl : k ≤ d.length := by rw [← hk]; exact tw_len _ _
  have hbk := Aside0.mk (bl_alloc (Below.refl w.heap.size w) (.cells #[.bool n, .string (B d), .int .i64 x] 24))
  have he2 := Aside0.mk (he.below hbk.out he.size)
  have z1 : (B d).size = d.length := rfl
  clear he
  subst hn
  have n1 : (⟨#[45]⟩ : ByteArray) ++ B d = B (45 :: d) := B_app [45] d
  have n2 : (9223372036854775807 < 1 + d.length) = False := eq_false (by omega)
  have n3 : (1 + d.length ≤ 9223372036854775807) = True := eq_true (by omega)
  have n6 : (B (45 :: d)).size = d.length + 1 := rfl
  obtain ⟨it, hit⟩ : ∃ it, Lib.itoa x = it := ⟨_, rfl⟩
  have hil : it.length ≤ 21 := by rw [← hit]; exact Lib.itoa_length_le x hx0 hx1
  have HI := Aside0.mk hit
  rw [hit] at hl
  try rw [hit]
  have m1 : (⟨#[101]⟩ : ByteArray) ++ B it = B (101 :: it) := B_app [101] it
  have m2 : (9223372036854775807 < 1 + (B it).size) = False := eq_false (by rw [B_size]; omega)
  have m6 : (B (101 :: it)).size = it.length + 1 := rfl
  have m4 : (9223372036854775807 < (d.length + 1) + (it.length + 1)) = False := eq_false (by omega)
  obtain ⟨T, hT⟩ : ∃ T, (45 :: d) ++ (101 :: it) = T := ⟨_, rfl⟩
  have m3 : B (45 :: d) ++ B (101 :: it) = B T := by rw [B_app, hT]
  rw [hT] at hl
  try rw [hT]
  have n4 : (B T).size = T.length := rfl
  have qn : (x != 0) = true := by simpa using hx
  clear hit hT
  have hea : ¬ (e.toNat : Int) = 48 := fun h => he48 (UInt8.toNat_inj.1 (by show e.toNat = 48; omega))
  have heb : ((e.toNat : Int) == 48) = false := by simpa using hea
  have hca : ¬ (c.toNat : Int) = 48 := fun h => hc48 (UInt8.toNat_inj.1 (by show c.toNat = 48; omega))
  have hcb : ((c.toNat : Int) == 48) = false := by simpa using hca
  have qA : ((k : Int) < (d.length : Int)) = False := eq_false (by omega)
  have hi : 0 < (B d).size := hz
  have qg : ((0 : Int) < (d.length : Int)) = True := eq_true (by omega)
  have qe : ((d.length : Int) == 0) = false := beq_eq_false_iff_ne.mpr (by omega)
  have q5 := idxn d 0 hi c hc
  have hj : m < (B d).size := by rw [B_size]; omega
  have q6 := idxn d m hj e he8
  have q7 : ((d.length : Int) - 1).toNat = m := by omega
  have q8 : ((d.length : Int) - 1) = (m : Int) := by omega
  clear hc he8
  have qx : (x < -999999) = False := eq_false (by omega)
  have qy : ((999999 : Int) < x) = False := eq_false (by omega)
  have n5 : ((1000 : Int) < (T.length : Int)) = True := eq_true (by omega)
  clear hk
  go_enter Tryz.func24, Tryz.ntmps24
  go_wp2_with (first
    | (go_at_call 40; (with_reducible refine (run_any d (by omega) k HK.out _).mono ?_); rintro e w1 ⟨rfl, ⟨nd, rfl⟩⟩)
    | (go_at_call 51; (with_reducible refine (itoa_any x hx0 hx1 _ (he2.out.below (below_drewN (Below.refl _ _) _) he2.out.size)).mono ?_); rintro e w2 ⟨rfl, hbi⟩; rw [HI.out]))
  go_ret2
  exact ⟨rfl, bl_trans (bl_drewN hbk.out _) hbi⟩
theorem join_any (n : Bool) (d : List UInt8) (x : Int) (w : World) (hd : d.length ≤ 100000) (hx0 : -9223372036854775808 ≤ x) (hx1 : x ≤ 9223372036854775807) (he : Env w) :
    Calls Tryz.prog 24 #[.agg (partsV (n, d, x))] w fun e w' => e = .returned (.tuple #[.string (B (joinL (n, d, x)).1), .int .i64 (joinL (n, d, x)).2]) ∧ Below w.heap.size w w' := by
  show Calls Tryz.prog 24 #[.agg #[.bool n, .string (B d), .int .i64 x]] w _
  by_cases hA : (d.takeWhile isD).length < d.length
  · rw [show joinL (n, d, x) = ([], 1) by unfold joinL; rw [if_pos (.inl hA)]]
    exact join_bad n d x w hd hx0 hx1 he hA
  have hk9 : (d.takeWhile isD).length = d.length := by have := tw_len isD d; omega
  by_cases hz : d.length = 0
  · by_cases hx : x = 0
    · cases n with
      | true =>
        rw [show joinL (true, d, x) = ([], 1) by unfold joinL; rw [if_pos (.inr (.inr ⟨hz, .inr rfl⟩))]]
        exact join_nil_n true d x w hd hx0 hx1 he hz hx rfl
      | false =>
        have hb : ¬ joinBad (false, d, x) := by
          rintro (h | ⟨h, _⟩ | ⟨_, h | h⟩)
          · exact hA h
          · exact absurd (show 0 < d.length from h) (by omega)
          · exact h hx
          · cases h
        rw [show joinL (false, d, x) = ([48], 0) by unfold joinL; rw [if_neg hb, if_neg (by simp only; omega), if_pos hz]]
        exact join_nil false d x w hd hx0 hx1 he hz hx rfl
    · rw [show joinL (n, d, x) = ([], 1) by unfold joinL; rw [if_pos (.inr (.inr ⟨hz, .inl hx⟩))]]
      exact join_nil_x n d x w hd hx0 hx1 he hz hx
  have hp : 0 < d.length := by omega
  obtain ⟨c, hc⟩ : ∃ c, d[0]? = some c := ⟨d[0], List.getElem?_eq_getElem hp⟩
  have hch : d.head? = some c := by rw [List.head?_eq_getElem?]; exact hc
  obtain ⟨m, hm⟩ : ∃ m, m + 1 = d.length := ⟨d.length - 1, by omega⟩
  obtain ⟨e, he8⟩ : ∃ e, d[m]? = some e := ⟨d[m], List.getElem?_eq_getElem (by omega)⟩
  have heh : d.getLast? = some e := by rw [List.getLast?_eq_getElem?, show d.length - 1 = m by omega]; exact he8
  by_cases hc48 : c = 48
  · rw [show joinL (n, d, x) = ([], 1) by unfold joinL; rw [if_pos (.inr (.inl ⟨hp, .inl (by rw [hch, hc48])⟩))]]
    exact join_head n d x w hd hx0 hx1 he hk9 hp c hc hc48
  by_cases he48 : e = 48
  · rw [show joinL (n, d, x) = ([], 1) by unfold joinL; rw [if_pos (.inr (.inl ⟨hp, .inr (by rw [heh, he48])⟩))]]
    exact join_last n d x w hd hx0 hx1 he hk9 hp c hc hc48 e m hm he8 he48
  have hb : ¬ joinBad (n, d, x) := by
    rintro (h | ⟨_, h | h⟩ | ⟨h, _⟩)
    · exact hA h
    · rw [show (n, d, x).2.1.head? = some c from hch] at h; injection h with h; exact hc48 h
    · rw [show (n, d, x).2.1.getLast? = some e from heh] at h; injection h with h; exact he48 h
    · exact hz h
  by_cases hlo : x < -999999
  · rw [show joinL (n, d, x) = ([], 5) by unfold joinL; rw [if_neg hb, if_pos (.inl hlo)]]
    exact join_low n d x w hd hx0 hx1 he hk9 hp c hc hc48 e m hm he8 he48 hlo
  by_cases hhi : 999999 < x
  · rw [show joinL (n, d, x) = ([], 5) by unfold joinL; rw [if_neg hb, if_pos (.inr hhi)]]
    exact join_high n d x w hd hx0 hx1 he hk9 hp c hc hc48 e m hm he8 he48 hhi
  have hr : -999999 ≤ x ∧ x ≤ 999999 := by omega
  have hJ : joinL (n, d, x) = if 1000 < (joinS (n, d, x)).length then ([], 2) else (joinS (n, d, x), 0) := by
    unfold joinL; rw [if_neg hb, if_neg (by simp only; omega), if_neg hz]
  rw [hJ]
  by_cases hx : x = 0
  · cases n with
    | true =>
      have hS : joinS (true, d, x) = 45 :: d := by unfold joinS; rw [if_pos rfl, if_neg (by simp only; omega)]; simp
      rw [hS]
      by_cases hl : 1000 < (45 :: d).length
      · rw [if_pos hl]; exact join_z11 true d x w hd hx0 hx1 he hk9 hp c hc hc48 e m hm he8 he48 hx rfl hl
      · rw [if_neg hl]; exact join_z10 true d x w hd hx0 hx1 he hk9 hp c hc hc48 e m hm he8 he48 hx rfl hl
    | false =>
      have hS : joinS (false, d, x) = d := by unfold joinS; rw [if_neg (show ¬ false = true from Bool.false_ne_true), if_neg (by simp only; omega)]; simp
      rw [hS]
      by_cases hl : 1000 < d.length
      · rw [if_pos hl]; exact join_z01 false d x w hd hx0 hx1 he hk9 hp c hc hc48 e m hm he8 he48 hx rfl hl
      · rw [if_neg hl]; exact join_z00 false d x w hd hx0 hx1 he hk9 hp c hc hc48 e m hm he8 he48 hx rfl hl
  · cases n with
    | true =>
      have hS : joinS (true, d, x) = (45 :: d) ++ (101 :: Lib.itoa x) := by unfold joinS; rw [if_pos rfl, if_pos hx]
      rw [hS]
      by_cases hl : 1000 < ((45 :: d) ++ (101 :: Lib.itoa x)).length
      · rw [if_pos hl]; exact join_e11 true d x w hd hx0 hx1 he hk9 hp c hc hc48 e m hm he8 he48 hr hx rfl hl
      · rw [if_neg hl]; exact join_e10 true d x w hd hx0 hx1 he hk9 hp c hc hc48 e m hm he8 he48 hr hx rfl hl
    | false =>
      have hS : joinS (false, d, x) = d ++ (101 :: Lib.itoa x) := by unfold joinS; rw [if_neg (show ¬ false = true from Bool.false_ne_true), if_pos hx]
      rw [hS]
      by_cases hl : 1000 < (d ++ (101 :: Lib.itoa x)).length
      · rw [if_pos hl]; exact join_e01 false d x w hd hx0 hx1 he hk9 hp c hc hc48 e m hm he8 he48 hr hx rfl hl
      · rw [if_neg hl]; exact join_e00 false d x w hd hx0 hx1 he hk9 hp c hc hc48 e m hm he8 he48 hr hx rfl hl
end Go.Proofs.YtjaongknagmfiaaGreatDoor
