/-
  THE ROW TextSizes, and its tied card.
-/
import Derived.Test.YtgdfgahpjebcaaaDoorSiz
import Derived.Test.YtgdfgahpjebcaaaDoorTie
import Derived.Test.YtgdfgahpjebcaaaDoorCards
import Derived.SevenTiedAt
set_option linter.unusedSimpArgs false
set_option linter.unusedVariables false
namespace Go.Proofs.YtgdfgahpjebcaaaDoor
open Go Go.ChangeShapes Go.WideShapes Go.RowKit

theorem sizes_true (c : Int) (w : World) (he : Env w) : Calls Tryd.prog 11 #[.int .i64 c] w fun e w' => e = .returned (.bool true) ∧ Below w.heap.size w w' := by
  cases hc : charB c with
  | false =>
    refine sizes_none c w he hc ?_
    have : ¬ (0 ≤ c ∧ c ≤ 1114111 ∧ (c < 55296 ∨ 57343 < c)) := fun h => by rw [(charB_spec c).2 h] at hc; cases hc
    omega
  | true =>
    have h := (charB_spec c).1 hc
    by_cases h1 : c ≤ 127
    · exact sizes_1 c w he hc (by omega) h1
    · by_cases h2 : c ≤ 2047
      · exact sizes_2 c w he hc (by omega) h2
      · by_cases h3 : c ≤ 65535
        · exact sizes_3 c w he hc (by omega) h3
        · exact sizes_4 c w he hc (by omega) (by omega)

set_option maxRecDepth 100000 in
theorem textSizes_lifted (os : Os) (started : os.Started) (H : Type) (enc : TypeId × Value → H) :
    ReturnsInHanded {} Tryd.checked os 11 .any (fun w args => (Rows.textSizesSpec.pre enc Tryd.prog Tryd.f11 [] false w args ∧ laidMetH Tryd.prog laid4 w) ∧ sizedMet enc Tryd.prog Tryd.f11 (OpenSpec.ofChange Rows.textSizesSpec) false w args)
      (Rows.textSizesSpec.post enc Tryd.prog Tryd.f11 false true false false) := by
  refine returnsInHanded_of_change_and (C := Tryd.checked) (X := fun w _ => laidMetH Tryd.prog laid4 w) (fun _ _ _ hh h => h.of_heap hh) ownk started (by kernel_rfl) Tryd.func11
    (ChangeSpec.witness_shaped (enc := enc) (C := Tryd.checked) (os := os) (X := fun w _ => laidMetH Tryd.prog laid4 w) false (World.doorLaid Tryd.prog 400 os) #[.int .i64 0] 8 rfl (World.shaped_of_RefB (by kernel_rfl) (by kernel_rfl)) (by kernel_rfl) (by kernel_rfl) (by kernel_rfl) (door_met os _)) ?_
  intro W base args ds gs before hval0 hW _ _ hL _
  have hW' := hW
  obtain ⟨p, q, hA0, hV, rfl, hfz, hnd⟩ := hW
  have hA : DataW.TrodAll enc Tryd.prog W 0 (fun _ => true) true Tryd.f11.params.toList args.toList ds p := hA0
  have hval : ∀ (j : Nat) t v, Tryd.f11.params[j]? = some t → args[j]? = some v → Value.okWide Tryd.prog W .any base t v := hval0
  rw [Tryd.params11] at hA hval
  obtain ⟨v0, d0, rfl, rfl, h0⟩ := trodAll_one hA
  obtain ⟨n, rfl, rfl, rfl, hwn⟩ := open_int Tryd.underlying3 (hval 0 3 v0 rfl rfl) h0
  obtain ⟨rfl, rfl⟩ := trodVars_none hV
  have he := env_of_laid hL
  have e1 : Rows.textSizesSpec.fn H ([.lit (.int .i64 n)] ++ []) = { results := [.lit (.bool true)], args := [.lit (.int .i64 n)] } := by simp [Rows.textSizesSpec]
  refine (sizes_true n W he).mono fun e W' ⟨he', hb⟩ => ?_
  subst he'
  refine ⟨_, rfl, _, _, _, [], [], [], hW', ?_, ?_, ?_, Below.frame hb _, fun h => by cases h⟩
  · rw [e1]; exact trodAll_mk1 (shut_bool Tryd.underlying4 true)
  · rw [e1]; exact trodAll_mk1 (shut_int Tryd.underlying3 hwn)
  · rw [e1]; rfl

theorem textSizes_holds : Rows.TextSizesSaid :=
  OpenClaim.holds_of_wide 11 Tryd.f11 rfl rfl rfl rfl rfl rfl rfl ⟨rfl, rfl, rfl, rfl, rfl⟩ rfl rfl rfl rfl rfl (by kernel_rfl) Tryd.func11 (by kernel_rfl)
    (of_decide_eq_true (by kernel_rfl)) (by unfold Func.isWrapper; first | (rw [if_pos (by decide +kernel)]; kernel_rfl) | (rw [if_neg (by decide +kernel)]; exact ⟨rfl, rfl⟩))
    (fun os started H enc _ => textSizes_lifted os started H enc)

/-- THE TIED CARD. -/
theorem textSizes_card : Rows.TextSizesCardSaid :=
  Claim7.holds_tied_plain_at .later [] [.data, .data, .data, .handle] true (true, "68568483a87640ecc2e4dc23ec51bfdbd1d2bd389a0f0f81e64c2362d9df5417") true
    textSizes_holds (fun _ h => by cases h) (by kernel_rfl) (fun _ h => by cases h) textSizes_row_tie rfl ⟨rfl, rfl⟩ (by kernel_rfl) rfl
    (fun f fn hf hfn => by
      obtain rfl : f = 11 := Option.some.inj ((show Tryd.prog.funcNamed "emend/emendlaw1.TextSizes" = some 11 by kernel_rfl).symm.trans hf) |>.symm
      obtain rfl : fn = Tryd.f11 := (Option.some.inj (Tryd.func11.symm.trans hfn)).symm
      exact ⟨by kernel_rfl, fun j t ht => by
        rw [Tryd.params11] at ht
        have hm : t ∈ [3] := by simpa using Array.mem_of_getElem? ht
        have hall : ([3].all fun u => !Tryd.prog.wantsStandIn u) = true := by kernel_rfl
        exact (show Tryd.prog.wantsStandIn t = false by simpa using List.all_eq_true.1 hall t hm)⟩)
    (by kernel_rfl)
#print axioms textSizes_card
end Go.Proofs.YtgdfgahpjebcaaaDoor
