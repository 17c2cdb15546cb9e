/-
  emendlaw1.TextSpots, walked.
-/
import Derived.Test.YtgdfgahpjebcaaaDoorSps
import Derived.BigQuiet
set_option linter.unusedSimpArgs false
set_option linter.unusedVariables false
namespace Go.Proofs.YtgdfgahpjebcaaaDoor
open Go.RowKit Go.Proofs.YtgdfgahpjebcaaaDoorW.PrintWords Go.Proofs.YtgdfgahpjebcaaaDoor.PT

/-- A text's beginning. -/
def fewI (s : ByteArray) (n : Nat) : ByteArray := if s.size > n then s.extract 0 n else s
theorem few_f (s : ByteArray) (n : Nat) : emendlaw1_few.f s n = some (fewI s n) := by
  unfold emendlaw1_few.f fewI
  by_cases h : s.size > n
  · rw [if_pos (by omega), if_pos (by omega), if_pos (by omega), if_pos h, Int.toNat_natCast]
  · rw [if_neg (by omega), if_neg h]
theorem few_size (s : ByteArray) (n : Nat) : (fewI s n).size ≤ n := by
  unfold fewI
  split
  · simp; omega
  · omega
theorem within_f (a n : Int) (h0 : 0 ≤ n) (h1 : n < 4611686018427387904) : ∃ r, emendbook_Within.f a 0 n = some r := by
  unfold emendbook_Within.f
  rw [if_neg (by rw [w64 (n := n - 0) (by omega) (by omega), w64 (by omega) (by omega)]; omega)]
  split <;> exact ⟨_, rfl⟩
theorem spotof_any (s : ByteArray) (at_ a b c : Int) (l : List Int) (er : Option Nat) (w : World) (hs : s.size ≤ 17592186000000) (h : Scan s 0 l er) (hr : spotS s at_ l er = (a, b, c)) :
    Calls Tryd.prog 16 #[.string s, .int .i64 at_] w fun e w' => e = .returned (.tuple #[.agg #[.int .i64 a, .int .i64 b], .int .i64 c]) ∧ Below w.heap.size w w' :=
  text_SpotOf.calls (s.size + 11) s at_ a b c w (by rw [spot_f (by omega) at_ h, hr])
theorem rspotof_any (s : ByteArray) (at_ a b c : Int) (l : List Int) (er : Option Nat) (w : World) (hs : s.size ≤ 17592186000000) (h : Scan s 0 l er) (hr : spotS s at_ l er = (a, b, c)) :
    Calls Tryd.prog 35 #[.string s, .int .i64 at_] w fun e w' => e = .returned (.tuple #[.int .i64 a, .int .i64 b, .int .i64 c]) ∧ Below w.heap.size w w' :=
  emendref1_SpotOf.calls (s.size + 12) s at_ a b c w (by rw [rspot_f hs at_ h, hr])
theorem at_any (s : ByteArray) (line col a b : Int) (l : List Int) (er : Option Nat) (w : World) (hs : s.size ≤ 17592186000000) (h : Scan s 0 l er) (hr : atS line col l er = (a, b)) :
    Calls Tryd.prog 17 #[.string s, .agg #[.int .i64 line, .int .i64 col]] w fun e w' => e = .returned (.tuple #[.int .i64 a, .int .i64 b]) ∧ Below w.heap.size w w' := by
  cases er with
  | none =>
    have k := at_ok s line col l w (by omega) h
    have hr' : atL line col l 0 1 1 = (a, b) := hr
    rw [hr'] at k; exact k
  | some x =>
    have hr' : ((0 : Int), (10 : Int)) = (a, b) := hr
    injection hr' with h1 h2
    subst h1; subst h2
    exact at_bad s line col l x w (by omega) h
theorem rat_any (s : ByteArray) (line col a b : Int) (l : List Int) (er : Option Nat) (w : World) (hs : s.size ≤ 17592186000000) (h : Scan s 0 l er) (hr : atS line col l er = (a, b)) :
    Calls Tryd.prog 36 #[.string s, .int .i64 line, .int .i64 col] w fun e w' => e = .returned (.tuple #[.int .i64 a, .int .i64 b]) ∧ Below w.heap.size w w' :=
  emendref1_At.calls (2 * s.size + 12) s line col a b w (by rw [rat_f hs line col h, hr])
end Go.Proofs.YtgdfgahpjebcaaaDoor
