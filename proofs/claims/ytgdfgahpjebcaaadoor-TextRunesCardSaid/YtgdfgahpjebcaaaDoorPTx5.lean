-- PRINTED by print.py (a twelfth state) out of the translation. Not trusted: Lean checks it.
import Derived.Test.YtgdfgahpjebcaaaDoorPTx0
import Derived.Test.YtgdfgahpjebcaaaDoorPTx3
import Derived.Test.YtgdfgahpjebcaaaDoorPTx4
namespace Go.Proofs.YtgdfgahpjebcaaaDoor.PT
open Go.RowKit Go.Proofs.YtgdfgahpjebcaaaDoorW.PrintWords Go.Proofs.YtgdfgahpjebcaaaDoorW.PrintLast Go.Proofs.YtgdfgahpjebcaaaDoorW.PrintMore
attribute [local go_sem] max2_int min2_int max_two min_two max_three min_three max_four min_four   -- for this text's walks alone
set_option linter.unusedVariables false
set_option linter.unusedSimpArgs false

/-! ### emendref1_Bytes: function 32 -/
def emendref1_Bytes.l0 : Nat → List Int → List Int → Int → Option (ByteArray × Int)
  | 0, _, _, _ => none
  | k + 1, x0, x4, x5 => if x5 < (x0.length : Int) then (if 0 ≤ x5 then ((emendref1_Char.f (rd x0 x5)).bind fun t149 => (if t149 = true then ((emendref1_Byte.f (rd x0 x5)).bind fun t151 => (if x4.length + t151.size < 140737488355328 then (emendref1_Bytes.l0 k x0 (x4 ++ bytesOf t151) (wrap64 (x5 + 1))) else (none))) else (some ((⟨#[]⟩ : ByteArray), 5)))) else (none)) else (some (strOfNums x4, 0))
def emendref1_Bytes.f (k : Nat) (l0 : List Int) : Option (ByteArray × Int) := if 0 ≤ 281474976710656 then (emendref1_Bytes.l0 k l0 (List.replicate 0 0) 0) else (none)
theorem emendref1_Bytes.mono_l : ∀ k, (∀ y0 y1 y2, LeO (emendref1_Bytes.l0 k y0 y1 y2) (emendref1_Bytes.l0 (k + 1) y0 y1 y2))
  | 0 => fun _ _ _ r h => by simp [emendref1_Bytes.l0] at h
  | k + 1 => by
    have ih0 := emendref1_Bytes.mono_l k
    · intro y0 y1 y2
      unfold emendref1_Bytes.l0
      repeat' first
      | (with_reducible exact ih0 _ _ _)
      | (with_reducible exact LeO.refl _)
      | (with_reducible exact LeO.none _)
      | (with_reducible refine LeO.ite ?_ ?_)
      | (with_reducible refine LeO.bind ?_ (fun _ => ?_))
      | exact ih0 _ _ _
      | exact LeO.none _
      | refine LeO.ite ?_ ?_
      | refine LeO.bind ?_ (fun _ => ?_)
theorem emendref1_Bytes.mono : ∀ a0 k, LeO (emendref1_Bytes.f k a0) (emendref1_Bytes.f (k + 1) a0) := by
  intro a0 k
  have ih0 := emendref1_Bytes.mono_l k
  unfold emendref1_Bytes.f
  repeat' first
      | (with_reducible exact ih0 _ _ _)
      | (with_reducible exact LeO.refl _)
      | (with_reducible exact LeO.none _)
      | (with_reducible refine LeO.ite ?_ ?_)
      | (with_reducible refine LeO.bind ?_ (fun _ => ?_))
      | exact ih0 _ _ _
      | exact LeO.none _
      | refine LeO.ite ?_ ?_
      | refine LeO.bind ?_ (fun _ => ?_)
set_option maxHeartbeats 8000000 in
set_option maxRecDepth 100000 in
theorem emendref1_Bytes.calls (k : Nat) (A0 : Option Addr) (c0 : Nat) (l0 : List Int) (r1 : ByteArray) (r2 : Int) (w : World) (hr0 : Kd.C (Kd.int .i64) w A0 l0.length l0) (hc0 : l0.length ≤ c0) (h : emendref1_Bytes.f k l0 = some (r1, r2)) :
    Calls Tryd.prog 32 #[.slice A0 l0.length c0] w fun e w' => e = .returned (.tuple #[.string r1, .int .i64 r2]) ∧ Below w.heap.size w w' := by
  have HR0 := Aside0.mk hr0
  have HC0 := Aside0.mk hc0
  clear hr0 hc0
  have HB := Aside0.mk (Below.refl w.heap.size w)
  have H : (if 0 ≤ 281474976710656 then (emendref1_Bytes.l0 k l0 (List.replicate 0 0) 0) else (none)) = some (r1, r2) := h
  clear h
  by_cases c2 : 0 ≤ 281474976710656
  · rw [if_pos c2] at H
    have c2b0 := eq_true c2
    have c2b1 : decide (0 ≤ 281474976710656) = true := decide_eq_true c2
    clear c2
    obtain ⟨y145, hy145⟩ : ∃ y_ : List Int, y_ = (List.replicate 0 0) := ⟨_, rfl⟩
    replace H : (emendref1_Bytes.l0 k l0 y145 0) = some (r1, r2) := by first | (rw [hy145]; with_reducible exact H) | (have H2_ := (Option.bind_some _ _).symm.trans H; rw [hy145]; with_reducible exact H2_) | (have H2_ := (Option.bind_some _ _).symm.trans H; with_reducible exact H2_) | with_reducible exact H | (rw [hy145]; exact H) | exact H
    have Ny145 := Aside0.mk hy145
    clear hy145
    have H' := Aside0.mk H
    clear H
    go_enter Tryd.func32, Tryd.ntmps32
    go_wp2_with (first | ((with_reducible refine gate_dst (N := 6) rfl ?_); refine Kd.R_make (Kd.int .u8) _ 5 rfl (N := 6) rfl 87 _ _ rfl 0 rfl rfl Tryd.underlying87 (.int .u8 0) 1 info5 rfl (by decide) (by omega) 0 (ok := fun _ => True) (okp := fun _ => True) rfl (fun _ hk => hk) trivial (by omega) (by omega) (Below.refl _ _) (Nat.le_refl _) ?_; intro v146 w3 ho4 hb hg_ hnew_; clear hg_ hnew_; (first | rw [← Ny145.out] at ho4 | (simp only [Int.reduceToNat] at ho4; rw [← Ny145.out] at ho4)); have n0_ := Aside0.mk (Kd.R_lower ho4 (below_size (by repeat (first | (with_reducible first | exact HB.out | apply below_alloc | apply pw_below_drewN | apply below_drew1) | exact HB.out)))); have n1_ := Aside0.mk (below_step (by repeat (first | (with_reducible first | exact HB.out | apply below_alloc | apply pw_below_drewN | apply below_drew1) | exact HB.out)) hb); clear HB; have HO147 := n0_; have HB := n1_; clear n0_ n1_; clear hb ho4))
    go_loopg [4, 5] k (fun kq v4 v5 w' => ∃ (x4_1 : List Int) (x5_1 : Int), v5 = .int .i64 x5_1 ∧ Aside0 (emendref1_Bytes.l0 kq l0 x4_1 x5_1 = some (r1, r2)) ∧ Aside0 (kq ≤ k) ∧ Aside0 (Kd.R (Kd.int .u8) 5 w' w.heap.size (fun _ => True) v4 x4_1) ∧ Aside0 (Below w.heap.size w w'))
    case atStart => exact ⟨(y145), (0), (by first | rfl | (simp; done) | (simp [*]; done)), H', ⟨Nat.le_refl _⟩, ⟨by (with_reducible repeat (first | apply Kd.R_alloc | apply Kd.R_drewN | apply Kd.R_drew)); exact HO147.out⟩, ⟨by repeat (first | (with_reducible first | exact HB.out | apply below_alloc | apply pw_below_drewN | apply below_drew1) | exact HB.out)⟩⟩
    case round =>
      clear H'
      try clear c2
      try clear c2b0
      try clear c2b1
      try clear p2
      try clear c3
      obtain ⟨x4_1, x5_1, rfl, HA, HK1, HO_4, HB⟩ := hrel
      cases gk with
      | zero => exact absurd HA.out (by simp [emendref1_Bytes.l0])
      | succ k1 =>
        have H := HA.out
        clear HA
        simp only [emendref1_Bytes.l0] at H
        by_cases c5 : x5_1 < (l0.length : Int)
        · rw [if_pos c5] at H
          have c5b0 : decide (x5_1 < (l0.length : Int)) = true := decide_eq_true c5
          clear c5
          by_cases c6 : 0 ≤ x5_1
          · rw [if_pos c6] at H
            have c6b0 : decide (0 ≤ x5_1) = true := decide_eq_true c6
            clear c6
            replace H := Option.bind_eq_some_iff.mp H
            obtain ⟨t149, A70, H⟩ := H
            replace H : (if t149 = true then ((emendref1_Byte.f (rd l0 x5_1)).bind fun t151 => (if x4_1.length + t151.size < 140737488355328 then (emendref1_Bytes.l0 k1 l0 (x4_1 ++ bytesOf t151) (wrap64 (x5_1 + 1))) else (none))) else (some ((⟨#[]⟩ : ByteArray), 5))) = some (r1, r2) := H
            have A7 := Aside0.mk A70
            clear A70
            by_cases c8 : t149 = true
            · subst c8
              have H1 : ((emendref1_Byte.f (rd l0 x5_1)).bind fun t151 => (if x4_1.length + t151.size < 140737488355328 then (emendref1_Bytes.l0 k1 l0 (x4_1 ++ bytesOf t151) (wrap64 (x5_1 + 1))) else (none))) = some (r1, r2) := by rw [if_pos rfl] at H; exact H
              clear H
              have H := H1
              clear H1
              replace H := Option.bind_eq_some_iff.mp H
              obtain ⟨t151, A90, H⟩ := H
              replace H : (if x4_1.length + t151.size < 140737488355328 then (emendref1_Bytes.l0 k1 l0 (x4_1 ++ bytesOf t151) (wrap64 (x5_1 + 1))) else (none)) = some (r1, r2) := H
              have A9 := Aside0.mk A90
              clear A90
              by_cases c10 : x4_1.length + t151.size < 140737488355328
              · rw [if_pos c10] at H
                have LMc10 := Aside0.mk c10
                clear c10
                obtain ⟨y152, hy152⟩ : ∃ y_ : List Int, y_ = (x4_1 ++ bytesOf t151) := ⟨_, rfl⟩
                replace H : (emendref1_Bytes.l0 k1 l0 y152 (wrap64 (x5_1 + 1))) = some (r1, r2) := by first | (rw [hy152]; with_reducible exact H) | (have H2_ := (Option.bind_some _ _).symm.trans H; rw [hy152]; with_reducible exact H2_) | (have H2_ := (Option.bind_some _ _).symm.trans H; with_reducible exact H2_) | with_reducible exact H | (rw [hy152]; exact H) | exact H
                have Ny152 := Aside0.mk hy152
                clear hy152
                have H' := Aside0.mk H
                clear H
                have p148 : 0 ≤ (x5_1 : Int) := of_decide_eq_true (by first | (with_reducible assumption) | assumption)
                have q148 : x5_1 < (l0.length : Int) := of_decide_eq_true (by first | (with_reducible assumption) | assumption)
                obtain ⟨ad148, e148, hx148_0⟩ := Kd.at_int HR0.out x5_1 p148 q148
                cases e148
                replace hx148_0 := (HB.out.cell (World.block_lt_of_cell? w _ hx148_0)).trans hx148_0
                replace p148 := eq_true p148
                replace q148 := eq_true q148
                go_wp2_with (first | ((with_reducible refine gate_callee (f := 41) rfl ?_); refine goesL_ (some 17) rfl rfl Tryd.func41 (by kernel_rfl) rfl #[.int .i64 (rd l0 x5_1)] rfl (by (try simp only [List.map_toArray, List.map_cons, List.map_nil]); first | done | rfl | (simp only [List.length_drop, List.length_take]; rfl)) ?_; (with_reducible refine (emendref1_Char.calls (rd l0 x5_1) true _ A7.out).mono ?_); rintro e w' ⟨rfl, ⟨nd, rfl⟩⟩; refine ⟨_, rfl, ?_⟩; have p150 : 0 ≤ (x5_1 : Int) := of_decide_eq_true (by first | (with_reducible assumption) | assumption); have q150 : x5_1 < (l0.length : Int) := of_decide_eq_true (by first | (with_reducible assumption) | assumption); obtain ⟨ad150, e150, hx150_0⟩ := Kd.at_int HR0.out x5_1 p150 q150; obtain rfl : ad148 = ad150 := (by injection e150); replace hx150_0 := (HB.out.cell (World.block_lt_of_cell? w _ hx150_0)).trans hx150_0; replace p150 := eq_true p150; replace q150 := eq_true q150) | ((with_reducible refine gate_callee (f := 59) rfl ?_); refine goesL_ (some 24) rfl rfl Tryd.func59 (by kernel_rfl) rfl #[.int .i64 (rd l0 x5_1)] rfl (by (try simp only [List.map_toArray, List.map_cons, List.map_nil]); first | done | rfl | (simp only [List.length_drop, List.length_take]; rfl)) ?_; (with_reducible refine (emendref1_Byte.calls (rd l0 x5_1) t151 _ A9.out).mono ?_); rintro e w11 ⟨rfl, hb⟩; refine ⟨_, rfl, ?_⟩; have n0_ := Aside0.mk (Kd.R_below (by (with_reducible repeat (first | apply Kd.R_alloc | apply Kd.R_drewN | apply Kd.R_drew)); exact HO_4.out) hb); have n1_ := Aside0.mk (below_step (by repeat (first | (with_reducible first | exact HB.out | apply below_alloc | apply pw_below_drewN | apply below_drew1) | exact HB.out)) hb); clear HO_4; clear HB; have HO_4 := n0_; have HB := n1_; clear n0_ n1_; (try clear hb); (try clear hb2); (try clear hk); (try clear hi)) | (at_builtin; refine print_append_str (w0 := w) w.heap.size rfl (.tmp 19) _ 87 9 5 rfl Tryd.underlying87 Tryd.underlying9 info5 u4 x4_1 t151 rfl rfl ?aO ?aB ?aS ?aL ?_; (case aB => exact (by repeat (first | (with_reducible first | exact HB.out | apply below_alloc | apply pw_below_drewN | apply below_drew1) | exact HB.out))); (case aO => exact (Kd.own_of_R (by (with_reducible repeat (first | apply Kd.R_alloc | apply Kd.R_drewN | apply Kd.R_drew)); exact HO_4.out))); (case aS => exact (below_size (by repeat (first | (with_reducible first | exact HB.out | apply below_alloc | apply pw_below_drewN | apply below_drew1) | exact HB.out)))); (case aL => have := LMc10.out; omega); intro v153 w12 ho0 hb hg; have ho := Kd.R_of_own (h1 := fun _ => rfl) (ok := fun _ => True) ho0 (fun _ _ => trivial); clear ho0; have hat := True.intro; rw [← Ny152.out] at ho; change Kd.R (Kd.int .u8) 5 w12 w.heap.size (fun _ => True) v153 y152 at ho; have n0_ := Aside0.mk (hb); have n1_ := Aside0.mk (ho); clear HB; clear HO_4; have HB := n0_; have HO154 := n1_; clear n0_ n1_; clear ho hb hg hat))
                go_roundg k1
                case measure => have := HK1.out; omega
                case rel => exact ⟨(y152), (wrap64 (x5_1 + 1)), (by first | rfl | (simp; done) | (simp [*]; done)), H', ⟨by have := HK1.out; omega⟩, ⟨by (with_reducible repeat (first | apply Kd.R_alloc | apply Kd.R_drewN | apply Kd.R_drew)); exact HO154.out⟩, ⟨by repeat (first | (with_reducible first | exact HB.out | apply below_alloc | apply pw_below_drewN | apply below_drew1) | exact HB.out)⟩⟩
              · rw [if_neg c10] at H
                exact absurd H (by simp)
            · replace c8 := Bool.eq_false_iff.mpr c8
              subst c8
              have H1 : (some ((⟨#[]⟩ : ByteArray), 5)) = some (r1, r2) := by rw [if_neg (show ¬ (false = true) by decide)] at H; exact H
              clear H
              have H := H1
              clear H1
              simp only [Option.some.injEq, Prod.mk.injEq] at H
              obtain ⟨rfl, rfl⟩ := H
              have p148 : 0 ≤ (x5_1 : Int) := of_decide_eq_true (by first | (with_reducible assumption) | assumption)
              have q148 : x5_1 < (l0.length : Int) := of_decide_eq_true (by first | (with_reducible assumption) | assumption)
              obtain ⟨ad148, e148, hx148_0⟩ := Kd.at_int HR0.out x5_1 p148 q148
              cases e148
              replace hx148_0 := (HB.out.cell (World.block_lt_of_cell? w _ hx148_0)).trans hx148_0
              replace p148 := eq_true p148
              replace q148 := eq_true q148
              go_wp2_with (first | ((with_reducible refine gate_callee (f := 41) rfl ?_); refine goesL_ (some 17) rfl rfl Tryd.func41 (by kernel_rfl) rfl #[.int .i64 (rd l0 x5_1)] rfl (by (try simp only [List.map_toArray, List.map_cons, List.map_nil]); first | done | rfl | (simp only [List.length_drop, List.length_take]; rfl)) ?_; (with_reducible refine (emendref1_Char.calls (rd l0 x5_1) false _ A7.out).mono ?_); rintro e w' ⟨rfl, ⟨nd, rfl⟩⟩; refine ⟨_, rfl, ?_⟩))
              go_ret2
              exact ⟨by first | rfl | (simp [errW_none, errW_some] <;> rfl) | (simp [*, errW_none, errW_some] <;> rfl), by repeat (first | (with_reducible first | exact HB.out | apply below_alloc | apply pw_below_drewN | apply below_drew1) | exact HB.out)⟩
          · rw [if_neg c6] at H
            exact absurd H (by simp)
        · rw [if_neg c5] at H
          have c5b0 : decide (x5_1 < (l0.length : Int)) = false := decide_eq_false c5
          clear c5
          simp only [Option.some.injEq, Prod.mk.injEq] at H
          obtain ⟨rfl, rfl⟩ := H
          have hcv13 := own_string (P := Tryd.prog) Tryd.underlying87 Tryd.underlying5 Tryd.underlying9 (Kd.own_of_R HO_4.out)
          go_wp2
          go_ret2
          exact ⟨by first | rfl | (simp [errW_none, errW_some] <;> rfl) | (simp [*, errW_none, errW_some] <;> rfl), by repeat (first | (with_reducible first | exact HB.out | apply below_alloc | apply pw_below_drewN | apply below_drew1) | exact HB.out)⟩
  · rw [if_neg c2] at H
    exact absurd H (by simp)

/-! ### emendref1_Valid: function 60 -/
def emendref1_Valid.f (k : Nat) (a0 : ByteArray) : Option (Bool) := (emendref1_Runes.f k a0).bind fun bt155 => (some (bt155.2.2 == 0))
theorem emendref1_Valid.mono : ∀ a0 k, LeO (emendref1_Valid.f k a0) (emendref1_Valid.f (k + 1) a0) := by
  intro a0 k
  unfold emendref1_Valid.f
  repeat' first
      | (with_reducible exact emendref1_Runes.mono _ _)
      | (with_reducible exact LeO.refl _)
      | (with_reducible exact LeO.none _)
      | (with_reducible refine LeO.ite ?_ ?_)
      | (with_reducible refine LeO.bind ?_ (fun _ => ?_))
      | exact emendref1_Runes.mono _ _
      | exact LeO.none _
      | refine LeO.ite ?_ ?_
      | refine LeO.bind ?_ (fun _ => ?_)
set_option maxHeartbeats 8000000 in
set_option maxRecDepth 100000 in
theorem emendref1_Valid.calls (k : Nat) (a0 : ByteArray) (r : Bool) (w : World) (h : emendref1_Valid.f k a0 = some r) :
    Calls Tryd.prog 60 #[.string a0] w fun e w' => e = .returned (.bool r) ∧ Below w.heap.size w w' := by
  have hu46 := Tryd.underlying46
  have HB := Aside0.mk (Below.refl w.heap.size w)
  have H : ((emendref1_Runes.f k a0).bind fun bt155 => (some (bt155.2.2 == 0))) = some r := h
  clear h
  replace H := Option.bind_eq_some_iff.mp H
  obtain ⟨⟨t155, t158, t159⟩, A20, H⟩ := H
  replace H : (some (t159 == 0)) = some r := H
  have A2 := Aside0.mk A20
  clear A20
  obtain rfl := Option.some.inj H
  go_enter Tryd.func60, Tryd.ntmps60
  go_wp2_with (first | ((with_reducible refine gate_callee (f := 25) rfl ?_); refine goesL_ (some 7) rfl rfl Tryd.func25 (by kernel_rfl) rfl #[.string a0] rfl (by (try simp only [List.map_toArray, List.map_cons, List.map_nil]); first | done | rfl | (simp only [List.length_drop, List.length_take]; rfl)) ?_; (with_reducible refine (emendref1_Runes.calls k a0 t155 t158 t159 _ A2.out).mono ?_); rintro e w3 ⟨v156, rfl, ho0, hb⟩; refine ⟨_, rfl, ?_⟩; have n0_ := Aside0.mk (Kd.R_lower ho0 (below_size (by repeat (first | (with_reducible first | exact HB.out | apply below_alloc | apply pw_below_drewN | apply below_drew1) | exact HB.out)))); have n1_ := Aside0.mk (below_step (by repeat (first | (with_reducible first | exact HB.out | apply below_alloc | apply pw_below_drewN | apply below_drew1) | exact HB.out)) hb); clear HB; have HO157 := n0_; have HB := n1_; clear n0_ n1_; (try clear hb); (try clear hb2); (try clear hk); (try clear hi); (try clear ho0)) | ((with_reducible refine gate_dst (N := 4) rfl ?_); refine box_event ?hg (N := 4) ?hd (cs := #[.int .i64 0, .int .i64 0]) (t := 46) ?hr ?_; (case hd => rfl); (case hg => rfl); (case hr => first | (go_simp; done) | (go_simp; rfl)); intro gb160 hg w4 hbox hb; have n0_ := Aside0.mk (Kd.R_below (by (with_reducible repeat (first | apply Kd.R_alloc | apply Kd.R_drewN | apply Kd.R_drew)); exact HO157.out) hb); have n1_ := Aside0.mk (below_step (by repeat (first | (with_reducible first | exact HB.out | apply below_alloc | apply pw_below_drewN | apply below_drew1) | exact HB.out)) hb); have n2_ := Aside0.mk (hbox); have n3_ := Aside0.mk ((by rw [hg]; exact (below_size (by repeat (first | (with_reducible first | exact HB.out | apply below_alloc | apply pw_below_drewN | apply below_drew1) | exact HB.out))) : w.heap.size ≤ gb160)); have n4_ := Aside0.mk ((by rw [hg]; exact (below_size (by repeat (first | (with_reducible first | exact HB.out | apply below_alloc | apply pw_below_drewN | apply below_drew1) | exact HB.out))) : w.heap.size ≤ gb160)); clear HO157; clear HB; have HO157 := n0_; have HB := n1_; have BK160 := n2_; have GW160 := n3_; have GE160 := n4_; clear n0_ n1_ n2_ n3_ n4_; clear hb hbox hg; have hcz5_0 : w4.cell? ⟨gb160, 0, none⟩ = some (.int .i64 0) := (blk_cell BK160.out 0).trans rfl; have hcz5_1 : w4.cell? ⟨gb160, 1, none⟩ = some (.int .i64 0) := (blk_cell BK160.out 1).trans rfl; have hfz5_0 := blk_frozen BK160.out 0; have hfz5_1 := blk_frozen BK160.out 1))
  go_ret
  exact ⟨by first | rfl | (simp [errW_none, errW_some] <;> rfl) | (simp [*, errW_none, errW_some] <;> rfl), by repeat (first | (with_reducible first | exact HB.out | apply below_alloc | apply pw_below_drewN | apply below_drew1 | refine below_set ?_ GE160.out) | exact HB.out)⟩

/-- THE ONE PURE STATEMENT of emendref1_Valid: yours. -/
def emendref1_Valid.Pure : Prop := ∀ (a0 : ByteArray), a0.size ≤ 140737488351232 → ∃ k, emendref1_Valid.f k a0 = some true
theorem emendref1_Valid.walk (P : emendref1_Valid.Pure) (a0 : ByteArray) (w : World) (w0 : a0.size ≤ 140737488351232) :
    Calls Tryd.prog 60 #[.string a0] w fun e w' => e = .returned (.bool true) ∧ Below w.heap.size w w' := by
  obtain ⟨k, h⟩ := P a0 w0
  refine (emendref1_Valid.calls k a0 true w h).mono ?_
  rintro e w' ⟨rfl, hd⟩
  exact ⟨rfl, hd⟩

/-! ### emendref1_SpotOf: function 35 -/
mutual
def emendref1_SpotOf.j0 : Nat → ByteArray → Int → Bool → Option (Int × Int × Int)
  | 0, _, _, _ => none
  | k + 1, x0, x1, x19 => if x19 = true then (some (0, 0, 5)) else ((emendref1_Valid.f k x0).bind fun t161 => (if t161 = true then (emendref1_SpotOf.l0 k x0 x1 1 1 0) else (some (0, 0, 10))))
def emendref1_SpotOf.l0 : Nat → ByteArray → Int → Int → Int → Int → Option (Int × Int × Int)
  | 0, _, _, _, _, _ => none
  | k + 1, x0, x1, x7, x8, x9 => if x9 < x1 then ((emendref1_One.f k x0 x9).bind fun bt162 => (if (wrap64 (x9 + bt162.2)) > x1 then (some (0, 0, 10)) else (if bt162.1 = 10 then (emendref1_SpotOf.l0 k x0 x1 (wrap64 (x7 + 1)) 1 (wrap64 (x9 + bt162.2))) else (emendref1_SpotOf.l0 k x0 x1 x7 (wrap64 (x8 + 1)) (wrap64 (x9 + bt162.2)))))) else (some (x7, x8, 0))
end
def emendref1_SpotOf.f (k : Nat) (a0 : ByteArray) (a1 : Int) : Option (Int × Int × Int) := if a1 < 0 then (emendref1_SpotOf.j0 k a0 a1 true) else (emendref1_SpotOf.j0 k a0 a1 (decide (a1 > (a0.size : Int))))
theorem emendref1_SpotOf.mono_l : ∀ k, (∀ y0 y1 y2, LeO (emendref1_SpotOf.j0 k y0 y1 y2) (emendref1_SpotOf.j0 (k + 1) y0 y1 y2)) ∧ (∀ y0 y1 y2 y3 y4, LeO (emendref1_SpotOf.l0 k y0 y1 y2 y3 y4) (emendref1_SpotOf.l0 (k + 1) y0 y1 y2 y3 y4))
  | 0 => ⟨fun _ _ _ r h => by simp [emendref1_SpotOf.j0] at h, fun _ _ _ _ _ r h => by simp [emendref1_SpotOf.l0] at h⟩
  | k + 1 => by
    obtain ⟨ih0, ih1⟩ := emendref1_SpotOf.mono_l k
    refine ⟨?_, ?_⟩
    · intro y0 y1 y2
      unfold emendref1_SpotOf.j0
      repeat' first
      | (with_reducible exact ih0 _ _ _)
      | (with_reducible exact ih1 _ _ _ _ _)
      | (with_reducible exact emendref1_One.mono _ _ _)
      | (with_reducible exact emendref1_Valid.mono _ _)
      | (with_reducible exact LeO.refl _)
      | (with_reducible exact LeO.none _)
      | (with_reducible refine LeO.ite ?_ ?_)
      | (with_reducible refine LeO.bind ?_ (fun _ => ?_))
      | exact ih0 _ _ _
      | exact ih1 _ _ _ _ _
      | exact emendref1_One.mono _ _ _
      | exact emendref1_Valid.mono _ _
      | exact LeO.none _
      | refine LeO.ite ?_ ?_
      | refine LeO.bind ?_ (fun _ => ?_)
    · intro y0 y1 y2 y3 y4
      unfold emendref1_SpotOf.l0
      repeat' first
      | (with_reducible exact ih0 _ _ _)
      | (with_reducible exact ih1 _ _ _ _ _)
      | (with_reducible exact emendref1_One.mono _ _ _)
      | (with_reducible exact emendref1_Valid.mono _ _)
      | (with_reducible exact LeO.refl _)
      | (with_reducible exact LeO.none _)
      | (with_reducible refine LeO.ite ?_ ?_)
      | (with_reducible refine LeO.bind ?_ (fun _ => ?_))
      | exact ih0 _ _ _
      | exact ih1 _ _ _ _ _
      | exact emendref1_One.mono _ _ _
      | exact emendref1_Valid.mono _ _
      | exact LeO.none _
      | refine LeO.ite ?_ ?_
      | refine LeO.bind ?_ (fun _ => ?_)
theorem emendref1_SpotOf.mono : ∀ a0 a1 k, LeO (emendref1_SpotOf.f k a0 a1) (emendref1_SpotOf.f (k + 1) a0 a1) := by
  intro a0 a1 k
  obtain ⟨ih0, ih1⟩ := emendref1_SpotOf.mono_l k
  unfold emendref1_SpotOf.f
  repeat' first
      | (with_reducible exact ih0 _ _ _)
      | (with_reducible exact ih1 _ _ _ _ _)
      | (with_reducible exact emendref1_One.mono _ _ _)
      | (with_reducible exact emendref1_Valid.mono _ _)
      | (with_reducible exact LeO.refl _)
      | (with_reducible exact LeO.none _)
      | (with_reducible refine LeO.ite ?_ ?_)
      | (with_reducible refine LeO.bind ?_ (fun _ => ?_))
      | exact ih0 _ _ _
      | exact ih1 _ _ _ _ _
      | exact emendref1_One.mono _ _ _
      | exact emendref1_Valid.mono _ _
      | exact LeO.none _
      | refine LeO.ite ?_ ?_
      | refine LeO.bind ?_ (fun _ => ?_)
set_option maxHeartbeats 8000000 in
set_option maxRecDepth 100000 in
theorem emendref1_SpotOf.calls (k : Nat) (a0 : ByteArray) (a1 : Int) (r1 : Int) (r2 : Int) (r3 : Int) (w : World) (h : emendref1_SpotOf.f k a0 a1 = some (r1, r2, r3)) :
    Calls Tryd.prog 35 #[.string a0, .int .i64 a1] w fun e w' => e = .returned (.tuple #[.int .i64 r1, .int .i64 r2, .int .i64 r3]) ∧ Below w.heap.size w w' := by
  have HB := Aside0.mk (Below.refl w.heap.size w)
  have H : (if a1 < 0 then (emendref1_SpotOf.j0 k a0 a1 true) else (emendref1_SpotOf.j0 k a0 a1 (decide (a1 > (a0.size : Int))))) = some (r1, r2, r3) := h
  clear h
  have HC3 := Aside0.mk H
  clear H
  go_enter Tryd.func35, Tryd.ntmps35
  go_upto_region 1 with (fail)
  go_cut [19] (fun v19 wc => ∃ (kq : Nat) (x19_2 : Bool), v19 = .bool x19_2 ∧ Aside0 (emendref1_SpotOf.j0 kq a0 a1 x19_2 = some (r1, r2, r3)) ∧ Aside0 (kq ≤ k) ∧ Aside0 (Below w.heap.size w wc))
  case first =>
    have H := HC3.out
    clear HC3
    by_cases c4 : a1 < 0
    · rw [if_pos c4] at H
      have c4b0 : decide (a1 < 0) = true := decide_eq_true c4
      clear c4
      (first | rw [c4b0] | (simp only [i64_w, i32_w]; rw [c4b0]) | skip)
      have H' := Aside0.mk H
      clear H
      go_wp2
      go_meet
      case rel => exact ⟨_, (true), (by first | rfl | (simp; done) | (simp [*]; done)), H', ⟨by first | omega | exact Nat.le_refl _⟩, ⟨by repeat (first | (with_reducible first | exact HB.out | apply below_alloc | apply pw_below_drewN | apply below_drew1) | exact HB.out)⟩⟩
    · rw [if_neg c4] at H
      have c4b0 : decide (a1 < 0) = false := decide_eq_false c4
      clear c4
      (first | rw [c4b0] | (simp only [i64_w, i32_w]; rw [c4b0]) | skip)
      have H' := Aside0.mk H
      clear H
      go_wp2
      go_meet
      case rel => exact ⟨_, (decide (a1 > (a0.size : Int))), (by first | rfl | (simp; done) | (simp [*]; done)), H', ⟨by first | omega | exact Nat.le_refl _⟩, ⟨by repeat (first | (with_reducible first | exact HB.out | apply below_alloc | apply pw_below_drewN | apply below_drew1) | exact HB.out)⟩⟩
  case rest =>
    clear HC3
    try clear p2
    try clear c3
    try clear c4
    try clear c4b0
    obtain ⟨kq, x19_2, rfl, HA, HJ2, HB⟩ := hcut
    cases kq with
    | zero => exact absurd HA.out (by simp [emendref1_SpotOf.j0])
    | succ kj2 =>
      have H := HA.out
      clear HA
      simp only [emendref1_SpotOf.j0] at H
      by_cases c5 : x19_2 = true
      · subst c5
        have H1 : (some (0, 0, 5)) = some (r1, r2, r3) := by rw [if_pos rfl] at H; exact H
        clear H
        have H := H1
        clear H1
        simp only [Option.some.injEq, Prod.mk.injEq] at H
        obtain ⟨rfl, rfl, rfl⟩ := H
        go_wp2
        go_ret3
        exact ⟨by first | rfl | (simp [errW_none, errW_some] <;> rfl) | (simp [*, errW_none, errW_some] <;> rfl), by repeat (first | (with_reducible first | exact HB.out | apply below_alloc | apply pw_below_drewN | apply below_drew1) | exact HB.out)⟩
      · replace c5 := Bool.eq_false_iff.mpr c5
        subst c5
        have H1 : ((emendref1_Valid.f kj2 a0).bind fun t161 => (if t161 = true then (emendref1_SpotOf.l0 kj2 a0 a1 1 1 0) else (some (0, 0, 10)))) = some (r1, r2, r3) := by rw [if_neg (show ¬ (false = true) by decide)] at H; exact H
        clear H
        have H := H1
        clear H1
        replace H := Option.bind_eq_some_iff.mp H
        obtain ⟨t161, A60, H⟩ := H
        replace H : (if t161 = true then (emendref1_SpotOf.l0 kj2 a0 a1 1 1 0) else (some (0, 0, 10))) = some (r1, r2, r3) := H
        have A6 := Aside0.mk A60
        clear A60
        by_cases c7 : t161 = true
        · subst c7
          have H1 : (emendref1_SpotOf.l0 kj2 a0 a1 1 1 0) = some (r1, r2, r3) := by rw [if_pos rfl] at H; exact H
          clear H
          have H := H1
          clear H1
          have H' := Aside0.mk H
          clear H
          go_wp2_with (first | ((with_reducible refine gate_callee (f := 60) rfl ?_); refine goesL_ (some 21) rfl rfl Tryd.func60 (by kernel_rfl) rfl #[.string a0] rfl (by (try simp only [List.map_toArray, List.map_cons, List.map_nil]); first | done | rfl | (simp only [List.length_drop, List.length_take]; rfl)) ?_; (with_reducible refine (emendref1_Valid.calls kj2 a0 true _ A6.out).mono ?_); rintro e w8 ⟨rfl, hb⟩; refine ⟨_, rfl, ?_⟩; have n0_ := Aside0.mk (below_step (by repeat (first | (with_reducible first | exact HB.out | apply below_alloc | apply pw_below_drewN | apply below_drew1) | exact HB.out)) hb); clear HB; have HB := n0_; clear n0_; (try clear hb); (try clear hb2); (try clear hk); (try clear hi)))
          go_loopg [7, 8, 9] kj2 (fun kq v7 v8 v9 w' => ∃ (x7_2 : Int) (x8_2 : Int) (x9_2 : Int), v7 = .int .i64 x7_2 ∧ v8 = .int .i64 x8_2 ∧ v9 = .int .i64 x9_2 ∧ Aside0 (emendref1_SpotOf.l0 kq a0 a1 x7_2 x8_2 x9_2 = some (r1, r2, r3)) ∧ Aside0 (kq ≤ kj2) ∧ Aside0 (Below w.heap.size w w'))
          case atStart => exact ⟨(1), (1), (0), (by first | rfl | (simp; done) | (simp [*]; done)), (by first | rfl | (simp; done) | (simp [*]; done)), (by first | rfl | (simp; done) | (simp [*]; done)), H', ⟨Nat.le_refl _⟩, ⟨by repeat (first | (with_reducible first | exact HB.out | apply below_alloc | apply pw_below_drewN | apply below_drew1) | exact HB.out)⟩⟩
          case round =>
            clear H'
            try clear p2
            try clear c3
            try clear c4
            try clear c4b0
            try clear c5
            try clear c6
            try clear c7
            try clear p2
            obtain ⟨x7_2, x8_2, x9_2, rfl, rfl, rfl, HA, HK2, HB⟩ := hrel
            cases gk with
            | zero => exact absurd HA.out (by simp [emendref1_SpotOf.l0])
            | succ k2 =>
              have H := HA.out
              clear HA
              simp only [emendref1_SpotOf.l0] at H
              by_cases c9 : x9_2 < a1
              · rw [if_pos c9] at H
                have c9b0 : decide (x9_2 < a1) = true := decide_eq_true c9
                clear c9
                replace H := Option.bind_eq_some_iff.mp H
                obtain ⟨⟨t162, t163⟩, A100, H⟩ := H
                replace H : (if (wrap64 (x9_2 + t163)) > a1 then (some (0, 0, 10)) else (if t162 = 10 then (emendref1_SpotOf.l0 k2 a0 a1 (wrap64 (x7_2 + 1)) 1 (wrap64 (x9_2 + t163))) else (emendref1_SpotOf.l0 k2 a0 a1 x7_2 (wrap64 (x8_2 + 1)) (wrap64 (x9_2 + t163))))) = some (r1, r2, r3) := H
                have A10 := Aside0.mk A100
                clear A100
                by_cases c11 : (wrap64 (x9_2 + t163)) > a1
                · rw [if_pos c11] at H
                  have c11b0 : decide (a1 < (wrap64 (x9_2 + t163))) = true := decide_eq_true c11
                  clear c11
                  simp only [Option.some.injEq, Prod.mk.injEq] at H
                  obtain ⟨rfl, rfl, rfl⟩ := H
                  go_wp2_with (first | ((with_reducible refine gate_callee (f := 57) rfl ?_); refine goesL_ (some 29) rfl rfl Tryd.func57 (by kernel_rfl) rfl #[.string a0, .int .i64 x9_2] rfl (by (try simp only [List.map_toArray, List.map_cons, List.map_nil]); first | done | rfl | (simp only [List.length_drop, List.length_take]; rfl)) ?_; (with_reducible refine (emendref1_One.calls k2 a0 x9_2 t162 t163 _ A10.out).mono ?_); rintro e w' ⟨rfl, ⟨nd, rfl⟩⟩; refine ⟨_, rfl, ?_⟩))
                  go_ret3
                  exact ⟨by first | rfl | (simp [errW_none, errW_some] <;> rfl) | (simp [*, errW_none, errW_some] <;> rfl), by repeat (first | (with_reducible first | exact HB.out | apply below_alloc | apply pw_below_drewN | apply below_drew1) | exact HB.out)⟩
                · rw [if_neg c11] at H
                  have c11b0 : decide (a1 < (wrap64 (x9_2 + t163))) = false := decide_eq_false c11
                  clear c11
                  by_cases c12 : t162 = 10
                  · rw [if_pos c12] at H
                    have c12b0 : (t162 == 10) = true := beq_iff_eq.mpr c12
                    have c12b1 : (t162 != 10) = false := bne_eq_false_iff_eq.mpr c12
                    clear c12
                    have H' := Aside0.mk H
                    clear H
                    go_wp2_with (first | ((with_reducible refine gate_callee (f := 57) rfl ?_); refine goesL_ (some 29) rfl rfl Tryd.func57 (by kernel_rfl) rfl #[.string a0, .int .i64 x9_2] rfl (by (try simp only [List.map_toArray, List.map_cons, List.map_nil]); first | done | rfl | (simp only [List.length_drop, List.length_take]; rfl)) ?_; (with_reducible refine (emendref1_One.calls k2 a0 x9_2 t162 t163 _ A10.out).mono ?_); rintro e w' ⟨rfl, ⟨nd, rfl⟩⟩; refine ⟨_, rfl, ?_⟩))
                    go_roundg k2
                    case measure => have := HJ2.out; have := HK2.out; omega
                    case rel => exact ⟨(wrap64 (x7_2 + 1)), (1), (wrap64 (x9_2 + t163)), (by first | rfl | (simp; done) | (simp [*]; done)), (by first | rfl | (simp; done) | (simp [*]; done)), (by first | rfl | (simp; done) | (simp [*]; done)), H', ⟨by have := HJ2.out; have := HK2.out; omega⟩, ⟨by repeat (first | (with_reducible first | exact HB.out | apply below_alloc | apply pw_below_drewN | apply below_drew1) | exact HB.out)⟩⟩
                  · rw [if_neg c12] at H
                    have c12b0 : (t162 == 10) = false := beq_eq_false_iff_ne.mpr c12
                    have c12b1 : (t162 != 10) = true := bne_iff_ne.mpr c12
                    have H' := Aside0.mk H
                    clear H
                    go_wp2_with (first | ((with_reducible refine gate_callee (f := 57) rfl ?_); refine goesL_ (some 29) rfl rfl Tryd.func57 (by kernel_rfl) rfl #[.string a0, .int .i64 x9_2] rfl (by (try simp only [List.map_toArray, List.map_cons, List.map_nil]); first | done | rfl | (simp only [List.length_drop, List.length_take]; rfl)) ?_; (with_reducible refine (emendref1_One.calls k2 a0 x9_2 t162 t163 _ A10.out).mono ?_); rintro e w' ⟨rfl, ⟨nd, rfl⟩⟩; refine ⟨_, rfl, ?_⟩))
                    go_roundg k2
                    case measure => have := HJ2.out; have := HK2.out; omega
                    case rel => exact ⟨(x7_2), (wrap64 (x8_2 + 1)), (wrap64 (x9_2 + t163)), (by first | rfl | (simp; done) | (simp [*]; done)), (by first | rfl | (simp; done) | (simp [*]; done)), (by first | rfl | (simp; done) | (simp [*]; done)), H', ⟨by have := HJ2.out; have := HK2.out; omega⟩, ⟨by repeat (first | (with_reducible first | exact HB.out | apply below_alloc | apply pw_below_drewN | apply below_drew1) | exact HB.out)⟩⟩
              · rw [if_neg c9] at H
                have c9b0 : decide (x9_2 < a1) = false := decide_eq_false c9
                clear c9
                simp only [Option.some.injEq, Prod.mk.injEq] at H
                obtain ⟨rfl, rfl, rfl⟩ := H
                go_wp2
                go_ret3
                exact ⟨by first | rfl | (simp [errW_none, errW_some] <;> rfl) | (simp [*, errW_none, errW_some] <;> rfl), by repeat (first | (with_reducible first | exact HB.out | apply below_alloc | apply pw_below_drewN | apply below_drew1) | exact HB.out)⟩
        · replace c7 := Bool.eq_false_iff.mpr c7
          subst c7
          have H1 : (some (0, 0, 10)) = some (r1, r2, r3) := by rw [if_neg (show ¬ (false = true) by decide)] at H; exact H
          clear H
          have H := H1
          clear H1
          simp only [Option.some.injEq, Prod.mk.injEq] at H
          obtain ⟨rfl, rfl, rfl⟩ := H
          go_wp2_with (first | ((with_reducible refine gate_callee (f := 60) rfl ?_); refine goesL_ (some 21) rfl rfl Tryd.func60 (by kernel_rfl) rfl #[.string a0] rfl (by (try simp only [List.map_toArray, List.map_cons, List.map_nil]); first | done | rfl | (simp only [List.length_drop, List.length_take]; rfl)) ?_; (with_reducible refine (emendref1_Valid.calls kj2 a0 false _ A6.out).mono ?_); rintro e w13 ⟨rfl, hb⟩; refine ⟨_, rfl, ?_⟩; have n0_ := Aside0.mk (below_step (by repeat (first | (with_reducible first | exact HB.out | apply below_alloc | apply pw_below_drewN | apply below_drew1) | exact HB.out)) hb); clear HB; have HB := n0_; clear n0_; (try clear hb); (try clear hb2); (try clear hk); (try clear hi)))
          go_ret3
          exact ⟨by first | rfl | (simp [errW_none, errW_some] <;> rfl) | (simp [*, errW_none, errW_some] <;> rfl), by repeat (first | (with_reducible first | exact HB.out | apply below_alloc | apply pw_below_drewN | apply below_drew1) | exact HB.out)⟩

/-! ### emendref1_At: function 36 -/
mutual
def emendref1_At.l0 : Nat → ByteArray → Int → Int → Int → Int → Int → Option (Int × Int)
  | 0, _, _, _, _, _, _ => none
  | k + 1, x0, x1, x2, x8, x9, x10 => if x10 ≤ (x0.size : Int) then (if x8 = x1 then (emendref1_At.j1 k x0 x1 x2 x8 x9 x10 (x9 == x2)) else (emendref1_At.j1 k x0 x1 x2 x8 x9 x10 false)) else (some (0, 5))
def emendref1_At.j1 : Nat → ByteArray → Int → Int → Int → Int → Int → Bool → Option (Int × Int)
  | 0, _, _, _, _, _, _, _ => none
  | k + 1, x0, x1, x2, x8, x9, x10, x27 => if x27 = true then (some (x10, 0)) else (if x10 = (x0.size : Int) then (some (0, 5)) else ((emendref1_One.f k x0 x10).bind fun bt165 => (if bt165.1 = 10 then (emendref1_At.l0 k x0 x1 x2 (wrap64 (x8 + 1)) 1 (wrap64 (x10 + bt165.2))) else (emendref1_At.l0 k x0 x1 x2 x8 (wrap64 (x9 + 1)) (wrap64 (x10 + bt165.2))))))
end
def emendref1_At.f (k : Nat) (a0 : ByteArray) (a1 : Int) (a2 : Int) : Option (Int × Int) := (emendref1_Valid.f k a0).bind fun t164 => (if t164 = true then (emendref1_At.l0 k a0 a1 a2 1 1 0) else (some (0, 10)))
theorem emendref1_At.mono_l : ∀ k, (∀ y0 y1 y2 y3 y4 y5, LeO (emendref1_At.l0 k y0 y1 y2 y3 y4 y5) (emendref1_At.l0 (k + 1) y0 y1 y2 y3 y4 y5)) ∧ (∀ y0 y1 y2 y3 y4 y5 y6, LeO (emendref1_At.j1 k y0 y1 y2 y3 y4 y5 y6) (emendref1_At.j1 (k + 1) y0 y1 y2 y3 y4 y5 y6))
  | 0 => ⟨fun _ _ _ _ _ _ r h => by simp [emendref1_At.l0] at h, fun _ _ _ _ _ _ _ r h => by simp [emendref1_At.j1] at h⟩
  | k + 1 => by
    obtain ⟨ih0, ih1⟩ := emendref1_At.mono_l k
    refine ⟨?_, ?_⟩
    · intro y0 y1 y2 y3 y4 y5
      unfold emendref1_At.l0
      repeat' first
      | (with_reducible exact ih0 _ _ _ _ _ _)
      | (with_reducible exact ih1 _ _ _ _ _ _ _)
      | (with_reducible exact emendref1_One.mono _ _ _)
      | (with_reducible exact emendref1_Valid.mono _ _)
      | (with_reducible exact LeO.refl _)
      | (with_reducible exact LeO.none _)
      | (with_reducible refine LeO.ite ?_ ?_)
      | (with_reducible refine LeO.bind ?_ (fun _ => ?_))
      | exact ih0 _ _ _ _ _ _
      | exact ih1 _ _ _ _ _ _ _
      | exact emendref1_One.mono _ _ _
      | exact emendref1_Valid.mono _ _
      | exact LeO.none _
      | refine LeO.ite ?_ ?_
      | refine LeO.bind ?_ (fun _ => ?_)
    · intro y0 y1 y2 y3 y4 y5 y6
      unfold emendref1_At.j1
      repeat' first
      | (with_reducible exact ih0 _ _ _ _ _ _)
      | (with_reducible exact ih1 _ _ _ _ _ _ _)
      | (with_reducible exact emendref1_One.mono _ _ _)
      | (with_reducible exact emendref1_Valid.mono _ _)
      | (with_reducible exact LeO.refl _)
      | (with_reducible exact LeO.none _)
      | (with_reducible refine LeO.ite ?_ ?_)
      | (with_reducible refine LeO.bind ?_ (fun _ => ?_))
      | exact ih0 _ _ _ _ _ _
      | exact ih1 _ _ _ _ _ _ _
      | exact emendref1_One.mono _ _ _
      | exact emendref1_Valid.mono _ _
      | exact LeO.none _
      | refine LeO.ite ?_ ?_
      | refine LeO.bind ?_ (fun _ => ?_)
theorem emendref1_At.mono : ∀ a0 a1 a2 k, LeO (emendref1_At.f k a0 a1 a2) (emendref1_At.f (k + 1) a0 a1 a2) := by
  intro a0 a1 a2 k
  obtain ⟨ih0, ih1⟩ := emendref1_At.mono_l k
  unfold emendref1_At.f
  repeat' first
      | (with_reducible exact ih0 _ _ _ _ _ _)
      | (with_reducible exact ih1 _ _ _ _ _ _ _)
      | (with_reducible exact emendref1_One.mono _ _ _)
      | (with_reducible exact emendref1_Valid.mono _ _)
      | (with_reducible exact LeO.refl _)
      | (with_reducible exact LeO.none _)
      | (with_reducible refine LeO.ite ?_ ?_)
      | (with_reducible refine LeO.bind ?_ (fun _ => ?_))
      | exact ih0 _ _ _ _ _ _
      | exact ih1 _ _ _ _ _ _ _
      | exact emendref1_One.mono _ _ _
      | exact emendref1_Valid.mono _ _
      | exact LeO.none _
      | refine LeO.ite ?_ ?_
      | refine LeO.bind ?_ (fun _ => ?_)
set_option maxHeartbeats 8000000 in
set_option maxRecDepth 100000 in
theorem emendref1_At.calls (k : Nat) (a0 : ByteArray) (a1 : Int) (a2 : Int) (r1 : Int) (r2 : Int) (w : World) (h : emendref1_At.f k a0 a1 a2 = some (r1, r2)) :
    Calls Tryd.prog 36 #[.string a0, .int .i64 a1, .int .i64 a2] w fun e w' => e = .returned (.tuple #[.int .i64 r1, .int .i64 r2]) ∧ Below w.heap.size w w' := by
  have HB := Aside0.mk (Below.refl w.heap.size w)
  have H : ((emendref1_Valid.f k a0).bind fun t164 => (if t164 = true then (emendref1_At.l0 k a0 a1 a2 1 1 0) else (some (0, 10)))) = some (r1, r2) := h
  clear h
  replace H := Option.bind_eq_some_iff.mp H
  obtain ⟨t164, A40, H⟩ := H
  replace H : (if t164 = true then (emendref1_At.l0 k a0 a1 a2 1 1 0) else (some (0, 10))) = some (r1, r2) := H
  have A4 := Aside0.mk A40
  clear A40
  by_cases c5 : t164 = true
  · subst c5
    have H1 : (emendref1_At.l0 k a0 a1 a2 1 1 0) = some (r1, r2) := by rw [if_pos rfl] at H; exact H
    clear H
    have H := H1
    clear H1
    have H' := Aside0.mk H
    clear H
    go_enter Tryd.func36, Tryd.ntmps36
    go_wp2_with (first | ((with_reducible refine gate_callee (f := 60) rfl ?_); refine goesL_ (some 14) rfl rfl Tryd.func60 (by kernel_rfl) rfl #[.string a0] rfl (by (try simp only [List.map_toArray, List.map_cons, List.map_nil]); first | done | rfl | (simp only [List.length_drop, List.length_take]; rfl)) ?_; (with_reducible refine (emendref1_Valid.calls k a0 true _ A4.out).mono ?_); rintro e w6 ⟨rfl, hb⟩; refine ⟨_, rfl, ?_⟩; have n0_ := Aside0.mk (below_step (by repeat (first | (with_reducible first | exact HB.out | apply below_alloc | apply pw_below_drewN | apply below_drew1) | exact HB.out)) hb); clear HB; have HB := n0_; clear n0_; (try clear hb); (try clear hb2); (try clear hk); (try clear hi)))
    go_loopg [8, 9, 10] k (fun kq v8 v9 v10 w' => ∃ (x8_1 : Int) (x9_1 : Int) (x10_1 : Int), v8 = .int .i64 x8_1 ∧ v9 = .int .i64 x9_1 ∧ v10 = .int .i64 x10_1 ∧ Aside0 (emendref1_At.l0 kq a0 a1 a2 x8_1 x9_1 x10_1 = some (r1, r2)) ∧ Aside0 (kq ≤ k) ∧ Aside0 (Below w.heap.size w w'))
    case atStart => exact ⟨(1), (1), (0), (by first | rfl | (simp; done) | (simp [*]; done)), (by first | rfl | (simp; done) | (simp [*]; done)), (by first | rfl | (simp; done) | (simp [*]; done)), H', ⟨Nat.le_refl _⟩, ⟨by repeat (first | (with_reducible first | exact HB.out | apply below_alloc | apply pw_below_drewN | apply below_drew1) | exact HB.out)⟩⟩
    case round =>
      clear H'
      try clear p2
      try clear c3
      try clear c5
      try clear c6
      obtain ⟨x8_1, x9_1, x10_1, rfl, rfl, rfl, HA, HK1, HB⟩ := hrel
      cases gk with
      | zero => exact absurd HA.out (by simp [emendref1_At.l0])
      | succ k1 =>
        have H := HA.out
        clear HA
        simp only [emendref1_At.l0] at H
        by_cases c7 : x10_1 ≤ (a0.size : Int)
        · rw [if_pos c7] at H
          have c7b0 : decide (x10_1 ≤ (a0.size : Int)) = true := decide_eq_true c7
          clear c7
          have HC8 := Aside0.mk H
          clear H
          go_upto_region 7 with (fail)
          go_cut [27] (fun v27 wc => ∃ (kq : Nat) (x27_7 : Bool), v27 = .bool x27_7 ∧ Aside0 (emendref1_At.j1 kq a0 a1 a2 x8_1 x9_1 x10_1 x27_7 = some (r1, r2)) ∧ Aside0 (kq ≤ k1) ∧ Aside0 (Below w.heap.size w wc))
          case first =>
            have H := HC8.out
            clear HC8
            by_cases c9 : x8_1 = a1
            · rw [if_pos c9] at H
              have c9b0 : (x8_1 == a1) = true := beq_iff_eq.mpr c9
              have c9b1 : (x8_1 != a1) = false := bne_eq_false_iff_eq.mpr c9
              clear c9
              (first | rw [c9b0] | (simp only [i64_w, i32_w]; rw [c9b0]) | skip)
              have H' := Aside0.mk H
              clear H
              go_wp2
              go_meet
              case rel => exact ⟨_, ((x9_1 == a2)), (by first | rfl | (simp; done) | (simp [*]; done)), H', ⟨by have := HK1.out; first | omega | exact Nat.le_refl _⟩, ⟨by repeat (first | (with_reducible first | exact HB.out | apply below_alloc | apply pw_below_drewN | apply below_drew1) | exact HB.out)⟩⟩
            · rw [if_neg c9] at H
              have c9b0 : (x8_1 == a1) = false := beq_eq_false_iff_ne.mpr c9
              have c9b1 : (x8_1 != a1) = true := bne_iff_ne.mpr c9
              (first | rw [c9b0] | (simp only [i64_w, i32_w]; rw [c9b0]) | skip)
              have H' := Aside0.mk H
              clear H
              go_wp2
              go_meet
              case rel => exact ⟨_, (false), (by first | rfl | (simp; done) | (simp [*]; done)), H', ⟨by have := HK1.out; first | omega | exact Nat.le_refl _⟩, ⟨by repeat (first | (with_reducible first | exact HB.out | apply below_alloc | apply pw_below_drewN | apply below_drew1) | exact HB.out)⟩⟩
          case rest =>
            clear HC8
            try clear p2
            try clear c3
            try clear c5
            try clear c6
            try clear c7
            try clear c7b0
            try clear c9
            try clear c9b0
            try clear c9b1
            try clear p2
            obtain ⟨kq, x27_7, rfl, HA, HJ7, HB⟩ := hcut
            cases kq with
            | zero => exact absurd HA.out (by simp [emendref1_At.j1])
            | succ kj7 =>
              have H := HA.out
              clear HA
              simp only [emendref1_At.j1] at H
              by_cases c10 : x27_7 = true
              · subst c10
                have H1 : (some (x10_1, 0)) = some (r1, r2) := by rw [if_pos rfl] at H; exact H
                clear H
                have H := H1
                clear H1
                simp only [Option.some.injEq, Prod.mk.injEq] at H
                obtain ⟨rfl, rfl⟩ := H
                go_wp2
                go_ret2
                exact ⟨by first | rfl | (simp [errW_none, errW_some] <;> rfl) | (simp [*, errW_none, errW_some] <;> rfl), by repeat (first | (with_reducible first | exact HB.out | apply below_alloc | apply pw_below_drewN | apply below_drew1) | exact HB.out)⟩
              · replace c10 := Bool.eq_false_iff.mpr c10
                subst c10
                have H1 : (if x10_1 = (a0.size : Int) then (some (0, 5)) else ((emendref1_One.f kj7 a0 x10_1).bind fun bt165 => (if bt165.1 = 10 then (emendref1_At.l0 kj7 a0 a1 a2 (wrap64 (x8_1 + 1)) 1 (wrap64 (x10_1 + bt165.2))) else (emendref1_At.l0 kj7 a0 a1 a2 x8_1 (wrap64 (x9_1 + 1)) (wrap64 (x10_1 + bt165.2)))))) = some (r1, r2) := by rw [if_neg (show ¬ (false = true) by decide)] at H; exact H
                clear H
                have H := H1
                clear H1
                by_cases c11 : x10_1 = (a0.size : Int)
                · rw [if_pos c11] at H
                  have c11b0 : (x10_1 == (a0.size : Int)) = true := beq_iff_eq.mpr c11
                  have c11b1 : (x10_1 != (a0.size : Int)) = false := bne_eq_false_iff_eq.mpr c11
                  clear c11
                  simp only [Option.some.injEq, Prod.mk.injEq] at H
                  obtain ⟨rfl, rfl⟩ := H
                  go_wp2
                  go_ret2
                  exact ⟨by first | rfl | (simp [errW_none, errW_some] <;> rfl) | (simp [*, errW_none, errW_some] <;> rfl), by repeat (first | (with_reducible first | exact HB.out | apply below_alloc | apply pw_below_drewN | apply below_drew1) | exact HB.out)⟩
                · rw [if_neg c11] at H
                  have c11b0 : (x10_1 == (a0.size : Int)) = false := beq_eq_false_iff_ne.mpr c11
                  have c11b1 : (x10_1 != (a0.size : Int)) = true := bne_iff_ne.mpr c11
                  replace H := Option.bind_eq_some_iff.mp H
                  obtain ⟨⟨t165, t166⟩, A120, H⟩ := H
                  replace H : (if t165 = 10 then (emendref1_At.l0 kj7 a0 a1 a2 (wrap64 (x8_1 + 1)) 1 (wrap64 (x10_1 + t166))) else (emendref1_At.l0 kj7 a0 a1 a2 x8_1 (wrap64 (x9_1 + 1)) (wrap64 (x10_1 + t166)))) = some (r1, r2) := H
                  have A12 := Aside0.mk A120
                  clear A120
                  by_cases c13 : t165 = 10
                  · rw [if_pos c13] at H
                    have c13b0 : (t165 == 10) = true := beq_iff_eq.mpr c13
                    have c13b1 : (t165 != 10) = false := bne_eq_false_iff_eq.mpr c13
                    clear c13
                    have H' := Aside0.mk H
                    clear H
                    go_wp2_with (first | ((with_reducible refine gate_callee (f := 57) rfl ?_); refine goesL_ (some 36) rfl rfl Tryd.func57 (by kernel_rfl) rfl #[.string a0, .int .i64 x10_1] rfl (by (try simp only [List.map_toArray, List.map_cons, List.map_nil]); first | done | rfl | (simp only [List.length_drop, List.length_take]; rfl)) ?_; (with_reducible refine (emendref1_One.calls kj7 a0 x10_1 t165 t166 _ A12.out).mono ?_); rintro e w' ⟨rfl, ⟨nd, rfl⟩⟩; refine ⟨_, rfl, ?_⟩))
                    go_roundg kj7
                    case measure => have := HK1.out; have := HJ7.out; omega
                    case rel => exact ⟨(wrap64 (x8_1 + 1)), (1), (wrap64 (x10_1 + t166)), (by first | rfl | (simp; done) | (simp [*]; done)), (by first | rfl | (simp; done) | (simp [*]; done)), (by first | rfl | (simp; done) | (simp [*]; done)), H', ⟨by have := HK1.out; have := HJ7.out; omega⟩, ⟨by repeat (first | (with_reducible first | exact HB.out | apply below_alloc | apply pw_below_drewN | apply below_drew1) | exact HB.out)⟩⟩
                  · rw [if_neg c13] at H
                    have c13b0 : (t165 == 10) = false := beq_eq_false_iff_ne.mpr c13
                    have c13b1 : (t165 != 10) = true := bne_iff_ne.mpr c13
                    have H' := Aside0.mk H
                    clear H
                    go_wp2_with (first | ((with_reducible refine gate_callee (f := 57) rfl ?_); refine goesL_ (some 36) rfl rfl Tryd.func57 (by kernel_rfl) rfl #[.string a0, .int .i64 x10_1] rfl (by (try simp only [List.map_toArray, List.map_cons, List.map_nil]); first | done | rfl | (simp only [List.length_drop, List.length_take]; rfl)) ?_; (with_reducible refine (emendref1_One.calls kj7 a0 x10_1 t165 t166 _ A12.out).mono ?_); rintro e w' ⟨rfl, ⟨nd, rfl⟩⟩; refine ⟨_, rfl, ?_⟩))
                    go_roundg kj7
                    case measure => have := HK1.out; have := HJ7.out; omega
                    case rel => exact ⟨(x8_1), (wrap64 (x9_1 + 1)), (wrap64 (x10_1 + t166)), (by first | rfl | (simp; done) | (simp [*]; done)), (by first | rfl | (simp; done) | (simp [*]; done)), (by first | rfl | (simp; done) | (simp [*]; done)), H', ⟨by have := HK1.out; have := HJ7.out; omega⟩, ⟨by repeat (first | (with_reducible first | exact HB.out | apply below_alloc | apply pw_below_drewN | apply below_drew1) | exact HB.out)⟩⟩
        · rw [if_neg c7] at H
          have c7b0 : decide (x10_1 ≤ (a0.size : Int)) = false := decide_eq_false c7
          clear c7
          simp only [Option.some.injEq, Prod.mk.injEq] at H
          obtain ⟨rfl, rfl⟩ := H
          go_wp2
          go_ret2
          exact ⟨by first | rfl | (simp [errW_none, errW_some] <;> rfl) | (simp [*, errW_none, errW_some] <;> rfl), by repeat (first | (with_reducible first | exact HB.out | apply below_alloc | apply pw_below_drewN | apply below_drew1) | exact HB.out)⟩
  · replace c5 := Bool.eq_false_iff.mpr c5
    subst c5
    have H1 : (some (0, 10)) = some (r1, r2) := by rw [if_neg (show ¬ (false = true) by decide)] at H; exact H
    clear H
    have H := H1
    clear H1
    simp only [Option.some.injEq, Prod.mk.injEq] at H
    obtain ⟨rfl, rfl⟩ := H
    go_enter Tryd.func36, Tryd.ntmps36
    go_wp2_with (first | ((with_reducible refine gate_callee (f := 60) rfl ?_); refine goesL_ (some 14) rfl rfl Tryd.func60 (by kernel_rfl) rfl #[.string a0] rfl (by (try simp only [List.map_toArray, List.map_cons, List.map_nil]); first | done | rfl | (simp only [List.length_drop, List.length_take]; rfl)) ?_; (with_reducible refine (emendref1_Valid.calls k a0 false _ A4.out).mono ?_); rintro e w14 ⟨rfl, hb⟩; refine ⟨_, rfl, ?_⟩; have n0_ := Aside0.mk (below_step (by repeat (first | (with_reducible first | exact HB.out | apply below_alloc | apply pw_below_drewN | apply below_drew1) | exact HB.out)) hb); clear HB; have HB := n0_; clear n0_; (try clear hb); (try clear hb2); (try clear hk); (try clear hi)))
    go_ret2
    exact ⟨by first | rfl | (simp [errW_none, errW_some] <;> rfl) | (simp [*, errW_none, errW_some] <;> rfl), by repeat (first | (with_reducible first | exact HB.out | apply below_alloc | apply pw_below_drewN | apply below_drew1) | exact HB.out)⟩

/-! ### emendref1_XML: function 61 -/
def emendref1_XML.f (a0 : Int) : Option (Bool) := (emendref1_Char.f a0).bind fun t167 => (if t167 = true then (if a0 ≥ 32 then (if a0 = 65534 then (some false) else (some (a0 != 65535))) else (if a0 = 9 then (if a0 = 65534 then (some false) else (some (a0 != 65535))) else (if a0 = 10 then (if a0 = 65534 then (some false) else (some (a0 != 65535))) else (if a0 = 13 then (if a0 = 65534 then (some false) else (some (a0 != 65535))) else (some false))))) else (some false))
set_option maxHeartbeats 8000000 in
set_option maxRecDepth 100000 in
theorem emendref1_XML.calls (a0 : Int) (r : Bool) (w : World) (h : emendref1_XML.f a0 = some r) :
    Calls Tryd.prog 61 #[.int .i64 a0] w fun e w' => e = .returned (.bool r) ∧ Drawn0 w w' := by
  have H : ((emendref1_Char.f a0).bind fun t167 => (if t167 = true then (if a0 ≥ 32 then (if a0 = 65534 then (some false) else (some (a0 != 65535))) else (if a0 = 9 then (if a0 = 65534 then (some false) else (some (a0 != 65535))) else (if a0 = 10 then (if a0 = 65534 then (some false) else (some (a0 != 65535))) else (if a0 = 13 then (if a0 = 65534 then (some false) else (some (a0 != 65535))) else (some false))))) else (some false))) = some r := h
  clear h
  replace H := Option.bind_eq_some_iff.mp H
  obtain ⟨t167, A20, H⟩ := H
  replace H : (if t167 = true then (if a0 ≥ 32 then (if a0 = 65534 then (some false) else (some (a0 != 65535))) else (if a0 = 9 then (if a0 = 65534 then (some false) else (some (a0 != 65535))) else (if a0 = 10 then (if a0 = 65534 then (some false) else (some (a0 != 65535))) else (if a0 = 13 then (if a0 = 65534 then (some false) else (some (a0 != 65535))) else (some false))))) else (some false)) = some r := H
  have A2 := Aside0.mk A20
  clear A20
  by_cases c3 : t167 = true
  · subst c3
    have H1 : (if a0 ≥ 32 then (if a0 = 65534 then (some false) else (some (a0 != 65535))) else (if a0 = 9 then (if a0 = 65534 then (some false) else (some (a0 != 65535))) else (if a0 = 10 then (if a0 = 65534 then (some false) else (some (a0 != 65535))) else (if a0 = 13 then (if a0 = 65534 then (some false) else (some (a0 != 65535))) else (some false))))) = some r := by rw [if_pos rfl] at H; exact H
    clear H
    have H := H1
    clear H1
    by_cases c4 : a0 ≥ 32
    · rw [if_pos c4] at H
      have c4b0 : decide (32 ≤ a0) = true := decide_eq_true c4
      clear c4
      by_cases c5 : a0 = 65534
      · rw [if_pos c5] at H
        have c5b0 : (a0 == 65534) = true := beq_iff_eq.mpr c5
        have c5b1 : (a0 != 65534) = false := bne_eq_false_iff_eq.mpr c5
        clear c5
        obtain rfl := Option.some.inj H
        go_enter Tryd.func61, Tryd.ntmps61
        go_wp2_with (first | ((with_reducible refine gate_callee (f := 41) rfl ?_); refine goesL_ (some 4) rfl rfl Tryd.func41 (by kernel_rfl) rfl #[.int .i64 a0] rfl (by (try simp only [List.map_toArray, List.map_cons, List.map_nil]); first | done | rfl | (simp only [List.length_drop, List.length_take]; rfl)) ?_; (with_reducible refine (emendref1_Char.calls a0 true _ A2.out).mono ?_); rintro e w' ⟨rfl, ⟨nd, rfl⟩⟩; refine ⟨_, rfl, ?_⟩))
        go_ret
        exact ⟨by first | rfl | (simp; done) | (simp [*]; done), by repeat (first | exact Drawn0.refl _ | apply Drawn0.step)⟩
      · rw [if_neg c5] at H
        have c5b0 : (a0 == 65534) = false := beq_eq_false_iff_ne.mpr c5
        have c5b1 : (a0 != 65534) = true := bne_iff_ne.mpr c5
        obtain rfl := Option.some.inj H
        go_enter Tryd.func61, Tryd.ntmps61
        go_wp2_with (first | ((with_reducible refine gate_callee (f := 41) rfl ?_); refine goesL_ (some 4) rfl rfl Tryd.func41 (by kernel_rfl) rfl #[.int .i64 a0] rfl (by (try simp only [List.map_toArray, List.map_cons, List.map_nil]); first | done | rfl | (simp only [List.length_drop, List.length_take]; rfl)) ?_; (with_reducible refine (emendref1_Char.calls a0 true _ A2.out).mono ?_); rintro e w' ⟨rfl, ⟨nd, rfl⟩⟩; refine ⟨_, rfl, ?_⟩))
        go_ret
        exact ⟨by first | rfl | (simp; done) | (simp [*]; done), by repeat (first | exact Drawn0.refl _ | apply Drawn0.step)⟩
    · rw [if_neg c4] at H
      have c4b0 : decide (32 ≤ a0) = false := decide_eq_false c4
      clear c4
      by_cases c6 : a0 = 9
      · rw [if_pos c6] at H
        have c6b0 : (a0 == 9) = true := beq_iff_eq.mpr c6
        have c6b1 : (a0 != 9) = false := bne_eq_false_iff_eq.mpr c6
        clear c6
        by_cases c7 : a0 = 65534
        · rw [if_pos c7] at H
          have c7b0 : (a0 == 65534) = true := beq_iff_eq.mpr c7
          have c7b1 : (a0 != 65534) = false := bne_eq_false_iff_eq.mpr c7
          clear c7
          obtain rfl := Option.some.inj H
          go_enter Tryd.func61, Tryd.ntmps61
          go_wp2_with (first | ((with_reducible refine gate_callee (f := 41) rfl ?_); refine goesL_ (some 4) rfl rfl Tryd.func41 (by kernel_rfl) rfl #[.int .i64 a0] rfl (by (try simp only [List.map_toArray, List.map_cons, List.map_nil]); first | done | rfl | (simp only [List.length_drop, List.length_take]; rfl)) ?_; (with_reducible refine (emendref1_Char.calls a0 true _ A2.out).mono ?_); rintro e w' ⟨rfl, ⟨nd, rfl⟩⟩; refine ⟨_, rfl, ?_⟩))
          go_ret
          exact ⟨by first | rfl | (simp; done) | (simp [*]; done), by repeat (first | exact Drawn0.refl _ | apply Drawn0.step)⟩
        · rw [if_neg c7] at H
          have c7b0 : (a0 == 65534) = false := beq_eq_false_iff_ne.mpr c7
          have c7b1 : (a0 != 65534) = true := bne_iff_ne.mpr c7
          obtain rfl := Option.some.inj H
          go_enter Tryd.func61, Tryd.ntmps61
          go_wp2_with (first | ((with_reducible refine gate_callee (f := 41) rfl ?_); refine goesL_ (some 4) rfl rfl Tryd.func41 (by kernel_rfl) rfl #[.int .i64 a0] rfl (by (try simp only [List.map_toArray, List.map_cons, List.map_nil]); first | done | rfl | (simp only [List.length_drop, List.length_take]; rfl)) ?_; (with_reducible refine (emendref1_Char.calls a0 true _ A2.out).mono ?_); rintro e w' ⟨rfl, ⟨nd, rfl⟩⟩; refine ⟨_, rfl, ?_⟩))
          go_ret
          exact ⟨by first | rfl | (simp; done) | (simp [*]; done), by repeat (first | exact Drawn0.refl _ | apply Drawn0.step)⟩
      · rw [if_neg c6] at H
        have c6b0 : (a0 == 9) = false := beq_eq_false_iff_ne.mpr c6
        have c6b1 : (a0 != 9) = true := bne_iff_ne.mpr c6
        by_cases c8 : a0 = 10
        · rw [if_pos c8] at H
          have c8b0 : (a0 == 10) = true := beq_iff_eq.mpr c8
          have c8b1 : (a0 != 10) = false := bne_eq_false_iff_eq.mpr c8
          clear c8
          by_cases c9 : a0 = 65534
          · rw [if_pos c9] at H
            have c9b0 : (a0 == 65534) = true := beq_iff_eq.mpr c9
            have c9b1 : (a0 != 65534) = false := bne_eq_false_iff_eq.mpr c9
            clear c9
            obtain rfl := Option.some.inj H
            go_enter Tryd.func61, Tryd.ntmps61
            go_wp2_with (first | ((with_reducible refine gate_callee (f := 41) rfl ?_); refine goesL_ (some 4) rfl rfl Tryd.func41 (by kernel_rfl) rfl #[.int .i64 a0] rfl (by (try simp only [List.map_toArray, List.map_cons, List.map_nil]); first | done | rfl | (simp only [List.length_drop, List.length_take]; rfl)) ?_; (with_reducible refine (emendref1_Char.calls a0 true _ A2.out).mono ?_); rintro e w' ⟨rfl, ⟨nd, rfl⟩⟩; refine ⟨_, rfl, ?_⟩))
            go_ret
            exact ⟨by first | rfl | (simp; done) | (simp [*]; done), by repeat (first | exact Drawn0.refl _ | apply Drawn0.step)⟩
          · rw [if_neg c9] at H
            have c9b0 : (a0 == 65534) = false := beq_eq_false_iff_ne.mpr c9
            have c9b1 : (a0 != 65534) = true := bne_iff_ne.mpr c9
            obtain rfl := Option.some.inj H
            go_enter Tryd.func61, Tryd.ntmps61
            go_wp2_with (first | ((with_reducible refine gate_callee (f := 41) rfl ?_); refine goesL_ (some 4) rfl rfl Tryd.func41 (by kernel_rfl) rfl #[.int .i64 a0] rfl (by (try simp only [List.map_toArray, List.map_cons, List.map_nil]); first | done | rfl | (simp only [List.length_drop, List.length_take]; rfl)) ?_; (with_reducible refine (emendref1_Char.calls a0 true _ A2.out).mono ?_); rintro e w' ⟨rfl, ⟨nd, rfl⟩⟩; refine ⟨_, rfl, ?_⟩))
            go_ret
            exact ⟨by first | rfl | (simp; done) | (simp [*]; done), by repeat (first | exact Drawn0.refl _ | apply Drawn0.step)⟩
        · rw [if_neg c8] at H
          have c8b0 : (a0 == 10) = false := beq_eq_false_iff_ne.mpr c8
          have c8b1 : (a0 != 10) = true := bne_iff_ne.mpr c8
          by_cases c10 : a0 = 13
          · rw [if_pos c10] at H
            have c10b0 : (a0 == 13) = true := beq_iff_eq.mpr c10
            have c10b1 : (a0 != 13) = false := bne_eq_false_iff_eq.mpr c10
            clear c10
            by_cases c11 : a0 = 65534
            · rw [if_pos c11] at H
              have c11b0 : (a0 == 65534) = true := beq_iff_eq.mpr c11
              have c11b1 : (a0 != 65534) = false := bne_eq_false_iff_eq.mpr c11
              clear c11
              obtain rfl := Option.some.inj H
              go_enter Tryd.func61, Tryd.ntmps61
              go_wp2_with (first | ((with_reducible refine gate_callee (f := 41) rfl ?_); refine goesL_ (some 4) rfl rfl Tryd.func41 (by kernel_rfl) rfl #[.int .i64 a0] rfl (by (try simp only [List.map_toArray, List.map_cons, List.map_nil]); first | done | rfl | (simp only [List.length_drop, List.length_take]; rfl)) ?_; (with_reducible refine (emendref1_Char.calls a0 true _ A2.out).mono ?_); rintro e w' ⟨rfl, ⟨nd, rfl⟩⟩; refine ⟨_, rfl, ?_⟩))
              go_ret
              exact ⟨by first | rfl | (simp; done) | (simp [*]; done), by repeat (first | exact Drawn0.refl _ | apply Drawn0.step)⟩
            · rw [if_neg c11] at H
              have c11b0 : (a0 == 65534) = false := beq_eq_false_iff_ne.mpr c11
              have c11b1 : (a0 != 65534) = true := bne_iff_ne.mpr c11
              obtain rfl := Option.some.inj H
              go_enter Tryd.func61, Tryd.ntmps61
              go_wp2_with (first | ((with_reducible refine gate_callee (f := 41) rfl ?_); refine goesL_ (some 4) rfl rfl Tryd.func41 (by kernel_rfl) rfl #[.int .i64 a0] rfl (by (try simp only [List.map_toArray, List.map_cons, List.map_nil]); first | done | rfl | (simp only [List.length_drop, List.length_take]; rfl)) ?_; (with_reducible refine (emendref1_Char.calls a0 true _ A2.out).mono ?_); rintro e w' ⟨rfl, ⟨nd, rfl⟩⟩; refine ⟨_, rfl, ?_⟩))
              go_ret
              exact ⟨by first | rfl | (simp; done) | (simp [*]; done), by repeat (first | exact Drawn0.refl _ | apply Drawn0.step)⟩
          · rw [if_neg c10] at H
            have c10b0 : (a0 == 13) = false := beq_eq_false_iff_ne.mpr c10
            have c10b1 : (a0 != 13) = true := bne_iff_ne.mpr c10
            obtain rfl := Option.some.inj H
            go_enter Tryd.func61, Tryd.ntmps61
            go_wp2_with (first | ((with_reducible refine gate_callee (f := 41) rfl ?_); refine goesL_ (some 4) rfl rfl Tryd.func41 (by kernel_rfl) rfl #[.int .i64 a0] rfl (by (try simp only [List.map_toArray, List.map_cons, List.map_nil]); first | done | rfl | (simp only [List.length_drop, List.length_take]; rfl)) ?_; (with_reducible refine (emendref1_Char.calls a0 true _ A2.out).mono ?_); rintro e w' ⟨rfl, ⟨nd, rfl⟩⟩; refine ⟨_, rfl, ?_⟩))
            go_ret
            exact ⟨by first | rfl | (simp; done) | (simp [*]; done), by repeat (first | exact Drawn0.refl _ | apply Drawn0.step)⟩
  · replace c3 := Bool.eq_false_iff.mpr c3
    subst c3
    have H1 : (some false) = some r := by rw [if_neg (show ¬ (false = true) by decide)] at H; exact H
    clear H
    have H := H1
    clear H1
    obtain rfl := Option.some.inj H
    go_enter Tryd.func61, Tryd.ntmps61
    go_wp2_with (first | ((with_reducible refine gate_callee (f := 41) rfl ?_); refine goesL_ (some 4) rfl rfl Tryd.func41 (by kernel_rfl) rfl #[.int .i64 a0] rfl (by (try simp only [List.map_toArray, List.map_cons, List.map_nil]); first | done | rfl | (simp only [List.length_drop, List.length_take]; rfl)) ?_; (with_reducible refine (emendref1_Char.calls a0 false _ A2.out).mono ?_); rintro e w' ⟨rfl, ⟨nd, rfl⟩⟩; refine ⟨_, rfl, ?_⟩))
    go_ret
    exact ⟨by first | rfl | (simp; done) | (simp [*]; done), by repeat (first | exact Drawn0.refl _ | apply Drawn0.step)⟩

/-- THE ONE PURE STATEMENT of emendref1_XML: yours. -/
def emendref1_XML.Pure : Prop := ∀ (a0 : Int), (Lit.int .i64 a0).wf = true → emendref1_XML.f a0 = some true
theorem emendref1_XML.walk (P : emendref1_XML.Pure) (a0 : Int) (w : World) (w0 : (Lit.int .i64 a0).wf = true) :
    Calls Tryd.prog 61 #[.int .i64 a0] w fun e w' => e = .returned (.bool true) ∧ Below w.heap.size w w' := by
  have h := P a0 w0
  refine (emendref1_XML.calls a0 true w h).mono ?_
  rintro e w' ⟨rfl, hd⟩
  exact ⟨rfl, hd.below⟩

end Go.Proofs.YtgdfgahpjebcaaaDoor.PT
