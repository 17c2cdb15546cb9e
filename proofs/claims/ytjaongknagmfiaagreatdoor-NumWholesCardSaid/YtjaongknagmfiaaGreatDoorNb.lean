/-
  num.cut, walked. PRINTED by gen_nb.py.
-/
import Derived.Test.YtjaongknagmfiaaGreatDoorNa
import Derived.Test.YtjaongknagmfiaaGreatDoorShelf
import Derived.Shelf.Strings.SlTrimAscii
import Derived.Deep.DeepCutAuto
import Derived.BigQuiet
set_option linter.unusedSimpArgs false
set_option linter.unusedVariables false
namespace Go.Proofs.YtjaongknagmfiaaGreatDoor
open Go.RowKit Go.Proofs.YtjaongknagmfiaaGreatDoorW.PrintWords Go.Proofs.YtjaongknagmfiaaGreatDoor.PT

/-- A literal's pieces from behind its digits on: an exponent or nothing. -/
def cutE (neg : Bool) (wh pt : List UInt8) : List UInt8 → Option (Bool × List UInt8 × List UInt8 × List UInt8)
  | [] => some (neg, wh, pt, [])
  | c :: r => if c = 101 ∨ c = 69 then
      (if (if r.head? = some 45 ∨ r.head? = some 43 then r.tail else r) = [] ∨ ((if r.head? = some 45 ∨ r.head? = some 43 then r.tail else r).takeWhile isD).length < (if r.head? = some 45 ∨ r.head? = some 43 then r.tail else r).length then none else some (neg, wh, pt, r))
    else none
theorem cutE_cons (neg : Bool) (wh pt : List UInt8) (c : UInt8) (r : List UInt8) : cutE neg wh pt (c :: r) = if c = 101 ∨ c = 69 then
      (if (if r.head? = some 45 ∨ r.head? = some 43 then r.tail else r) = [] ∨ ((if r.head? = some 45 ∨ r.head? = some 43 then r.tail else r).takeWhile isD).length < (if r.head? = some 45 ∨ r.head? = some 43 then r.tail else r).length then none else some (neg, wh, pt, r))
    else none := rfl
/-- .. from behind the sign on. -/
def cutS (neg : Bool) (s : List UInt8) : Option (Bool × List UInt8 × List UInt8 × List UInt8) :=
  if (s.takeWhile isD).length = 0 ∨ (1 < (s.takeWhile isD).length ∧ s.head? = some 48) then none
  else if (s.dropWhile isD).head? = some 46 then
    (if (((s.dropWhile isD).tail).takeWhile isD).length = 0 then none else cutE neg (s.takeWhile isD) (((s.dropWhile isD).tail).takeWhile isD) (((s.dropWhile isD).tail).dropWhile isD))
  else cutE neg (s.takeWhile isD) [] (s.dropWhile isD)
/-- A literal's pieces. -/
def cutL (l : List UInt8) : Option (Bool × List UInt8 × List UInt8 × List UInt8) := if l.head? = some 45 then cutS true l.tail else cutS false l
/-- What num.cut answers. -/
def cutV : Option (Bool × List UInt8 × List UInt8 × List UInt8) → Array Value
  | none => #[.bool false, .string ⟨#[]⟩, .string ⟨#[]⟩, .string ⟨#[]⟩, .bool false]
  | some (n, a, b, c) => #[.bool n, .string (B a), .string (B b), .string (B c), .bool true]

theorem hp_any (l : List UInt8) (c : UInt8) (b : Bool) (hb : (l.head? == some c) = b) (w : World) : Calls Tryz.prog 39 #[.string (B l), .string ⟨#[c]⟩] w fun e w' => e = .returned (.bool b) ∧ Drawn0 w w' :=
  strings_HasPrefix.calls (B l) (B [c]) b w (by rw [hasP_f, hb])
theorem tp_any (l : List UInt8) (c : UInt8) (r : List UInt8) (hr : (if l.head? = some c then l.tail else l) = r) (w : World) : Calls Tryz.prog 41 #[.string (B l), .string ⟨#[c]⟩] w fun e w' => e = .returned (.string (B r)) ∧ Drawn0 w w' :=
  strings_TrimPrefix.calls (B l) (B [c]) _ w (by rw [trimP_f, hr])
theorem run_any (l : List UInt8) (hl : l.length ≤ 1000000) (n : Nat) (hn : (l.takeWhile isD).length = n) (w : World) : Calls Tryz.prog 40 #[.string (B l)] w fun e w' => e = .returned (.int .i64 n) ∧ Drawn0 w w' := by
  subst hn
  exact num_run.calls (l.length + 1) (B l) _ w (run_f l hl _ (Nat.lt_succ_self _))

theorem beq_list {a b : List UInt8} : ((B a).toList == (B b).toList) = decide (a = b) := by
  rw [B_list, B_list]
  by_cases h : a = b
  · simp [h]
  · simp [h]
theorem idx0 (s : List UInt8) (h : 0 < (B s).size) (c : UInt8) (r : List UInt8) (hs : s = c :: r) : (((B s)[0]'h).toNat : Int) = c.toNat := by
  subst hs; rfl
set_option maxHeartbeats 8000000 in
set_option maxRecDepth 100000 in
theorem cut_any (l : List UInt8) (w : World) (hl : l.length ≤ 100000) : Calls Tryz.prog 19 #[.string (B l)] w fun e w' => e = .returned (.tuple (cutV (cutL l))) ∧ Drawn0 w w' := by
  obtain ⟨X, hX⟩ : ∃ X, cutL l = X := ⟨_, rfl⟩
  rw [hX]
  obtain ⟨neg, hneg⟩ : ∃ b, (l.head? == some 45) = b := ⟨_, rfl⟩
  obtain ⟨s, hs⟩ : ∃ s, (if neg = true then l.tail else l) = s := ⟨_, rfl⟩
  have hsl : s.length ≤ 100000 := by rw [← hs]; split; rw [List.length_tail]; omega; exact hl
  have hX2 : cutS neg s = X := by
    rw [← hX, ← hs, ← hneg]
    unfold cutL
    by_cases h0 : l.head? = some 45
    · simp [h0]
    · have : (l.head? == some 45) = false := by simpa using h0
      simp [h0, this]
  have HX := Aside0.mk hX2
  have HN := Aside0.mk hneg
  have HS := Aside0.mk hs
  clear hX hX2 hneg hs
  go_enter Tryz.func19, Tryz.ntmps19
  go_upto_if 13 with (first
    | (go_at_call 39; (with_reducible refine (hp_any l 45 neg HN.out _).mono ?_); rintro e w1 ⟨rfl, ⟨nd, rfl⟩⟩))
  go_cut [2, 7] (fun s2 s7 wx => s2 = .bool neg ∧ s7 = .string (B s) ∧ Drawn0 w wx)
  case first =>
    cases neg with
    | true =>
      have hl1 : 1 ≤ l.length := by
        have := HN.out
        cases l with | nil => cases this | cons a l => simp
      have x1 : (B l).extract 1 (B l).size = B s := by rw [B_tail, List.drop_one]; exact congrArg B (by simpa using HS.out)
      have p1 : ((1 : Int) ≤ ((B l).size : Int)) = True := eq_true (by rw [B_size]; omega)
      go_wp2
      go_meet
      exact ⟨rfl, rfl, ⟨_, rfl⟩⟩
    | false =>
      have x1 : B l = B s := congrArg B (by simpa using HS.out)
      go_wp2
      go_meet
      exact ⟨rfl, by rw [x1], ⟨_, rfl⟩⟩
  case rest =>
    obtain ⟨rfl, rfl, ⟨nd, rfl⟩⟩ := hcut
    clear HN HS
    obtain ⟨n, hn⟩ : ∃ n, (s.takeWhile isD).length = n := ⟨_, rfl⟩
    have hnl : n ≤ s.length := by rw [← hn]; exact tw_len _ _
    obtain ⟨b6, hb6⟩ : ∃ b, decide (n = 0 ∨ (1 < n ∧ s.head? = some 48)) = b := ⟨_, rfl⟩
    have HN := Aside0.mk hn
    have HB6 := Aside0.mk hb6
    clear hn hb6
    go_upto_region 6 with (first
      | (go_at_call 40; (with_reducible refine (run_any s (by omega) n HN.out _).mono ?_); rintro e w1 ⟨rfl, ⟨nd2, rfl⟩⟩))
    go_cut [28] (fun s28 wx => s28 = .bool b6 ∧ Drawn0 w wx)
    case first =>
      by_cases h0 : n = 0
      · subst h0
        have hb : b6 = true := by rw [← HB6.out]; rfl
        subst hb
        go_wp2
        go_meet
        exact ⟨rfl, ⟨_, rfl⟩⟩
      · have q0 : ((n : Int) = 0) = False := eq_false (by omega)
        have q0b : ((n : Int) == 0) = false := by simpa using h0
        by_cases h1 : 1 < n
        · have q1 : ((1 : Int) < (n : Int)) = True := eq_true (by omega)
          have hi : 0 < (B s).size := by rw [B_size]; omega
          obtain ⟨c, r, hcr⟩ : ∃ c r, s = c :: r := by
            cases s with | nil => simp at hnl; omega | cons c r => exact ⟨c, r, rfl⟩
          have q5 := idx0 s hi c r hcr
          by_cases hc : c = 48
          · have q6 : ((c.toNat : Int) = 48) = True := eq_true (by subst hc; rfl)
            have q7 : ((c.toNat : Int) == 48) = true := by subst hc; rfl
            have hb : b6 = true := by rw [← HB6.out, hcr, hc]; simp [h1]
            subst hb
            clear hcr
            go_wp2
            go_meet
            exact ⟨rfl, ⟨_, rfl⟩⟩
          · have q8 : ¬ (c.toNat : Int) = 48 := fun h => hc (UInt8.toNat_inj.1 (by show c.toNat = 48; omega))
            have q6 : ((c.toNat : Int) = 48) = False := eq_false q8
            have q7 : ((c.toNat : Int) == 48) = false := by simpa using q8
            have hb : b6 = false := by rw [← HB6.out, hcr]; simp [h0, hc]
            subst hb
            clear hcr q8
            go_wp2
            go_meet
            exact ⟨rfl, ⟨_, rfl⟩⟩
        · have q1 : ((1 : Int) < (n : Int)) = False := eq_false (by omega)
          have hb : b6 = false := by rw [← HB6.out]; simp [h0, h1]
          subst hb
          go_wp2
          go_meet
          exact ⟨rfl, ⟨_, rfl⟩⟩
    case rest =>
      obtain ⟨rfl, ⟨nd, rfl⟩⟩ := hcut
      cases b6 with
      | true =>
        have hX : X = none := by
          rw [← HX.out]
          unfold cutS
          rw [HN.out, if_pos (of_decide_eq_true HB6.out)]
        subst hX
        go_wp2
        refine bodyPost_ret (results_list (rs := [.tmp 2, .tmp 3, .tmp 4, .tmp 5, .tmp 6]) rfl (by simp) (.tmp (.tmp (.tmp (.tmp (.tmp .nil)))))) rfl ?_
        exact ⟨rfl, ⟨_, rfl⟩⟩
      | false =>
        obtain ⟨wh, hwh⟩ : ∃ x, s.takeWhile isD = x := ⟨_, rfl⟩
        obtain ⟨r, hr⟩ : ∃ x, s.dropWhile isD = x := ⟨_, rfl⟩
        obtain ⟨b9, hb9⟩ : ∃ b, (r.head? == some 46) = b := ⟨_, rfl⟩
        have hrl : r.length ≤ 100000 := by
          have := congrArg List.length (List.takeWhile_append_dropWhile (p := isD) (l := s))
          rw [List.length_append, hr] at this
          omega
        have x8 : (B s).extract 0 n = B wh := by rw [B_head, ← HN.out, tw_take, hwh]
        have x9 : (B s).extract n (B s).size = B r := by rw [B_tail, ← HN.out, tw_drop, hr]
        have p8 : ((n : Int) ≤ ((B s).size : Int)) = True := eq_true (by rw [B_size]; omega)
        have hX2 : (if b9 = true then (if (r.tail.takeWhile isD).length = 0 then none else cutE neg wh (r.tail.takeWhile isD) (r.tail.dropWhile isD)) else cutE neg wh [] r) = X := by
          rw [← HX.out, ← hb9]
          unfold cutS
          rw [HN.out, if_neg (of_decide_eq_false HB6.out), hwh, hr]
          by_cases h : r.head? = some 46
          · simp [h]
          · simp [h]
        have HX2 := Aside0.mk hX2
        have HB9 := Aside0.mk hb9
        clear HX HB6 HN hX2 hb9 hwh hr
        go_wp2
        go_quiet (fail)
        clear x8 x9 p8
        obtain ⟨pt, hpt⟩ : ∃ x, (if b9 = true then r.tail.takeWhile isD else []) = x := ⟨_, rfl⟩
        obtain ⟨r2, hr2⟩ : ∃ x, (if b9 = true then r.tail.dropWhile isD else r) = x := ⟨_, rfl⟩
        have HRL2 : r2.length ≤ 100000 := by
          rw [← hr2]
          split
          · have := (List.dropWhile_sublist isD (l := r.tail)).length_le; rw [List.length_tail] at this; omega
          · exact hrl
        have HPT := Aside0.mk hpt
        have HR2 := Aside0.mk hr2
        clear hpt hr2
        go_upto_if 36 with (first
          | (go_at_call 39; (with_reducible refine (hp_any r 46 b9 HB9.out _).mono ?_); rintro e w1 ⟨rfl, ⟨nd, rfl⟩⟩))
        go_cut [2, 3, 4, 7, 8] (fun s2 s3 s4 s7 s8 wx => s2 = .bool neg ∧ s3 = .string (B wh) ∧ s4 = .string (B pt) ∧ s7 = .string (B r2) ∧ cutE neg wh pt r2 = X ∧ r2.length ≤ 100000 ∧ Drawn0 w wx)
        case first =>
          cases b9 with
          | true =>
            obtain ⟨m, hm⟩ : ∃ m, (r.tail.takeWhile isD).length = m := ⟨_, rfl⟩
            have hml : m ≤ r.tail.length := by rw [← hm]; exact tw_len _ _
            have hr1 : 1 ≤ r.length := by
              have := HB9.out
              cases r with | nil => cases this | cons a l => simp
            have hrt : r.tail.length = r.length - 1 := List.length_tail
            have x1 : (B r).extract 1 (B r).size = B r.tail := by rw [B_tail, List.drop_one]
            have p1 : ((1 : Int) ≤ ((B r).size : Int)) = True := eq_true (by rw [B_size]; omega)
            have HM := Aside0.mk hm
            have hHX := HX2.out
            rw [if_pos rfl] at hHX
            by_cases hm0 : m = 0
            · rw [hm, if_pos hm0] at hHX
              subst hHX
              have qm : ((m : Int) == 0) = true := by simp [hm0]
              clear hm
              go_wp2_with (first
                | (go_at_call 40; (with_reducible refine (run_any r.tail (by omega) m HM.out _).mono ?_); rintro e w1 ⟨rfl, ⟨nd3, rfl⟩⟩))
              refine bodyPost_ret (results_list (rs := [.tmp 2, .tmp 3, .tmp 4, .tmp 5, .tmp 6]) rfl (by simp) (.tmp (.tmp (.tmp (.tmp (.tmp .nil)))))) rfl ?_
              exact ⟨rfl, ⟨_, rfl⟩⟩
            · rw [hm, if_neg hm0] at hHX
              have qm : ((m : Int) == 0) = false := by simpa using hm0
              have hp := HPT.out
              have hq := HR2.out
              rw [if_pos rfl] at hp hq
              have q2 : (1 + (m : Int)).toNat = 1 + m := by omega
              have x2 : (B r).extract 1 (1 + m) = B pt := by rw [B_ext, List.drop_one, show 1 + m - 1 = m by omega, ← hm, tw_take, hp]
              have x3 : (B r).extract (1 + m) (B r).size = B r2 := by rw [B_tail, ← List.drop_drop, List.drop_one, ← hm, tw_drop, hq]
              have p2 : ((1 : Int) + (m : Int) ≤ ((B r).size : Int)) = True := eq_true (by rw [B_size]; omega)
              have p3 : ((1 : Int) ≤ 1 + (m : Int)) = True := eq_true (by omega)
              have p4 : ((0 : Int) ≤ 1 + (m : Int)) = True := eq_true (by omega)
              rw [hp, hq] at hHX
              have HXX := Aside0.mk hHX
              clear hm hp hq hHX HX2 HPT HR2
              go_wp2_with (first
                | (go_at_call 40; (with_reducible refine (run_any r.tail (by omega) m HM.out _).mono ?_); rintro e w1 ⟨rfl, ⟨nd3, rfl⟩⟩))
              go_quiet (fail)
              go_wp2
              go_meet
              exact ⟨rfl, rfl, rfl, rfl, HXX.out, HRL2, by repeat (first | exact Drawn0.refl _ | apply Drawn0.step)⟩
          | false =>
            have hHX := HX2.out
            have hp := HPT.out
            have hq := HR2.out
            rw [if_neg (by decide)] at hHX hp hq
            subst hp hq
            have HXX := Aside0.mk hHX
            clear hHX
            go_wp2
            go_meet
            exact ⟨rfl, rfl, rfl, rfl, HXX.out, HRL2, by repeat (first | exact Drawn0.refl _ | apply Drawn0.step)⟩
        case rest =>
          obtain ⟨rfl, rfl, rfl, rfl, hXE, HRL2, ⟨nd, rfl⟩⟩ := hcut
          have HXE := Aside0.mk hXE
          clear hXE HX2 HB9 HPT HR2
          have hr2l : r2.length ≤ 100000 := HRL2
          clear HRL2
          cases r2 with
          | nil =>
            have e14 : ((B []).toList == ([] : List UInt8)) = true := by rw [B_list]; rfl
            have hX : X = some (neg, wh, pt, []) := HXE.out.symm
            subst hX
            clear HXE
            go_wp2
            refine bodyPost_ret (results_list (rs := [.tmp 2, .tmp 3, .tmp 4, .tmp 5, .tmp 6]) rfl (by simp) (.tmp (.tmp (.tmp (.tmp (.tmp .nil)))))) rfl ?_
            exact ⟨rfl, by repeat (first | exact Drawn0.refl _ | apply Drawn0.step)⟩
          | cons c r3 =>
            have e14 : ((B (c :: r3)).toList == ([] : List UInt8)) = false := by rw [B_list]; rfl
            have hi : 0 < (B (c :: r3)).size := by rw [B_size]; simp
            have q5 := idx0 (c :: r3) hi c r3 rfl
            obtain ⟨b16, hb16⟩ : ∃ b, decide (¬ (c = 101 ∨ c = 69)) = b := ⟨_, rfl⟩
            have HB16 := Aside0.mk hb16
            clear hb16
            simp only [List.length_cons] at hr2l
            go_upto_region 16 with fail
            go_cut [62] (fun s62 wx => s62 = .bool b16 ∧ Drawn0 w wx)
            case first =>
              by_cases h1 : c = 101
              · have q6 : ((c.toNat : Int) != 101) = false := by subst h1; rfl
                have hb : b16 = false := by rw [← HB16.out]; simp [h1]
                subst hb
                clear h1
                go_wp2
                go_meet
                exact ⟨rfl, ⟨_, rfl⟩⟩
              · have q6 : ((c.toNat : Int) != 101) = true := by
                  have : ¬ (c.toNat : Int) = 101 := fun h => h1 (UInt8.toNat_inj.1 (by show c.toNat = 101; omega))
                  simpa using this
                by_cases h2 : c = 69
                · have q7 : ((c.toNat : Int) != 69) = false := by subst h2; rfl
                  have hb : b16 = false := by rw [← HB16.out]; simp [h2]
                  subst hb
                  clear h2
                  go_wp2
                  go_meet
                  exact ⟨rfl, ⟨_, rfl⟩⟩
                · have q7 : ((c.toNat : Int) != 69) = true := by
                    have : ¬ (c.toNat : Int) = 69 := fun h => h2 (UInt8.toNat_inj.1 (by show c.toNat = 69; omega))
                    simpa using this
                  have hb : b16 = true := by rw [← HB16.out]; simp [h1, h2]
                  subst hb
                  go_wp2
                  go_meet
                  exact ⟨rfl, ⟨_, rfl⟩⟩
            case rest =>
              obtain ⟨rfl, ⟨nd, rfl⟩⟩ := hcut
              cases b16 with
              | true =>
                have hX : X = none := by
                  rw [← HXE.out, cutE_cons, if_neg (of_decide_eq_true HB16.out)]
                subst hX
                go_wp2
                refine bodyPost_ret (results_list (rs := [.tmp 2, .tmp 3, .tmp 4, .tmp 5, .tmp 6]) rfl (by simp) (.tmp (.tmp (.tmp (.tmp (.tmp .nil)))))) rfl ?_
                exact ⟨rfl, by repeat (first | exact Drawn0.refl _ | apply Drawn0.step)⟩
              | false =>
                have x1 : (B (c :: r3)).extract 1 (B (c :: r3)).size = B r3 := by rw [B_tail]; rfl
                have p1 : ((1 : Int) ≤ ((B (c :: r3)).size : Int)) = True := eq_true (by rw [B_size, List.length_cons]; omega)
                obtain ⟨d1, hd1⟩ : ∃ d, (if r3.head? = some 45 then r3.tail else r3) = d := ⟨_, rfl⟩
                obtain ⟨b20, hb20⟩ : ∃ b, decide (d1 = r3) = b := ⟨_, rfl⟩
                have e20 : ((B d1).toList == (B r3).toList) = b20 := by rw [beq_list, hb20]
                obtain ⟨d, hd⟩ : ∃ d, (if r3.head? = some 45 ∨ r3.head? = some 43 then r3.tail else r3) = d := ⟨_, rfl⟩
                have hdl : d.length ≤ 100000 := by rw [← hd]; split; rw [List.length_tail]; omega; omega
                have hXd : (if d = [] ∨ (d.takeWhile isD).length < d.length then none else some (neg, wh, pt, r3)) = X := by
                  rw [← HXE.out, cutE_cons, hd, if_pos (Classical.not_not.1 (of_decide_eq_false HB16.out))]
                have HD1 := Aside0.mk hd1
                have HB20 := Aside0.mk hb20
                have HD := Aside0.mk hd
                have HXD := Aside0.mk hXd
                clear hd1 hb20 hd hXd HXE HB16 q5 hi e14
                go_upto_if 69 with (first
                  | (go_at_call 41; (with_reducible refine (tp_any r3 45 d1 HD1.out _).mono ?_); rintro e w1 ⟨rfl, ⟨nd4, rfl⟩⟩))
                go_cut [9] (fun s9 wx => s9 = .string (B d) ∧ Drawn0 w wx)
                case first =>
                  have h1 := HD1.out
                  have h2 := HD.out
                  by_cases h45 : r3.head? = some 45
                  · rw [if_pos h45] at h1
                    rw [if_pos (.inl h45)] at h2
                    have hb : b20 = false := by
                      rw [← HB20.out, ← h1]
                      apply decide_eq_false
                      intro h
                      have := congrArg List.length h
                      rw [List.length_tail] at this
                      cases r3 with | nil => cases h45 | cons a l => simp only [List.length_cons] at this; omega
                    have h3 : d1 = d := by rw [← h1, h2]
                    subst hb
                    clear h1 h2 e20
                    subst h3
                    go_wp2
                    go_meet
                    exact ⟨rfl, ⟨_, rfl⟩⟩
                  · rw [if_neg h45] at h1
                    have hb : b20 = true := by rw [← HB20.out, ← h1]; simp
                    have h5 : (if r3.head? = some 43 then r3.tail else r3) = d := by
                      rw [← h2]
                      by_cases h43 : r3.head? = some 43
                      · rw [if_pos h43, if_pos (.inr h43)]
                      · rw [if_neg h43, if_neg (fun h => by rcases h with h | h; exact h45 h; exact h43 h)]
                    have H5 := Aside0.mk h5
                    subst hb
                    clear h1 h2 h5 e20
                    go_wp2_with (first
                      | (go_at_call 41; (with_reducible refine (tp_any r3 43 d H5.out _).mono ?_); rintro e w1 ⟨rfl, ⟨nd5, rfl⟩⟩))
                    go_meet
                    exact ⟨rfl, ⟨_, rfl⟩⟩
                case rest =>
                  obtain ⟨rfl, ⟨nd, rfl⟩⟩ := hcut
                  have hx := HXD.out
                  clear HXD HD HD1 HB20 e20 x1 p1
                  by_cases h0 : d = []
                  · rw [if_pos (.inl h0)] at hx
                    subst hx h0
                    have e22 : ((B []).toList == ([] : List UInt8)) = true := by rw [B_list]; rfl
                    go_wp2
                    refine bodyPost_ret (results_list (rs := [.tmp 2, .tmp 3, .tmp 4, .tmp 5, .tmp 6]) rfl (by simp) (.tmp (.tmp (.tmp (.tmp (.tmp .nil)))))) rfl ?_
                    exact ⟨rfl, by repeat (first | exact Drawn0.refl _ | apply Drawn0.step)⟩
                  · obtain ⟨k, hk⟩ : ∃ k, (d.takeWhile isD).length = k := ⟨_, rfl⟩
                    rw [hk] at hx
                    have e22 : ((B d).toList == ([] : List UInt8)) = false := by rw [B_list]; simpa using h0
                    have HK := Aside0.mk hk
                    clear hk
                    by_cases h1 : k < d.length
                    · rw [if_pos (.inr h1)] at hx
                      subst hx
                      have q1 : ((k : Int) < ((B d).size : Int)) = True := eq_true (by rw [B_size]; omega)
                      go_wp2_with (first
                        | (go_at_call 40; (with_reducible refine (run_any d (by omega) k HK.out _).mono ?_); rintro e w1 ⟨rfl, ⟨nd6, rfl⟩⟩))
                      refine bodyPost_ret (results_list (rs := [.tmp 2, .tmp 3, .tmp 4, .tmp 5, .tmp 6]) rfl (by simp) (.tmp (.tmp (.tmp (.tmp (.tmp .nil)))))) rfl ?_
                      exact ⟨rfl, by repeat (first | exact Drawn0.refl _ | apply Drawn0.step)⟩
                    · rw [if_neg (fun h => by rcases h with h | h; exact h0 h; exact h1 h)] at hx
                      subst hx
                      have q1 : ((k : Int) < ((B d).size : Int)) = False := eq_false (by rw [B_size]; omega)
                      go_wp2_with (first
                        | (go_at_call 40; (with_reducible refine (run_any d (by omega) k HK.out _).mono ?_); rintro e w1 ⟨rfl, ⟨nd6, rfl⟩⟩))
                      refine bodyPost_ret (results_list (rs := [.tmp 2, .tmp 3, .tmp 4, .tmp 5, .tmp 6]) rfl (by simp) (.tmp (.tmp (.tmp (.tmp (.tmp .nil)))))) rfl ?_
                      exact ⟨rfl, by repeat (first | exact Drawn0.refl _ | apply Drawn0.step)⟩
end Go.Proofs.YtjaongknagmfiaaGreatDoor
