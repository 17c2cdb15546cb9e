/-
  Two texts behind one another: plain.
-/
import Derived.Test.YtgdfgahpjebcaaaDoorSpw
set_option linter.unusedSimpArgs false
set_option linter.unusedVariables false
namespace Go.Proofs.YtgdfgahpjebcaaaDoor
open Go.RowKit Go.Proofs.YtgdfgahpjebcaaaDoorW.PrintWords Go.Proofs.YtgdfgahpjebcaaaDoor.PT

theorem app_size (a b : ByteArray) : (a ++ b).size = a.size + b.size := ByteArray.size_append
theorem app_extract (a b : ByteArray) (i : Nat) : (a ++ b).extract (a.size + i) (a ++ b).size = b.extract i b.size := by
  apply ByteArray.ext
  rw [ByteArray.data_extract, ByteArray.data_extract, app_size]
  apply Array.toList_inj.1
  have hl := data_length a
  rw [Array.toList_extract, Array.toList_extract, ByteArray.data_append, Array.toList_append]
  show ((a.data.toList ++ b.data.toList).drop (a.size + i)).take (a.size + b.size - (a.size + i)) = (b.data.toList.drop i).take (b.size - i)
  rw [List.drop_append, hl, List.drop_eq_nil_of_le (by omega), List.nil_append, show a.size + i - a.size = i by omega, show a.size + b.size - (a.size + i) = b.size - i by omega]
theorem dec_app (a b : ByteArray) (i : Nat) (hi : i < b.size) : dec (a ++ b) ((a.size + i : Nat) : Int) = dec b i := by
  rw [← dec_extract (a ++ b) (a.size + i) (by rw [app_size]; omega), ← dec_extract b i (by omega), app_extract]
theorem bytesOf_app (a b : ByteArray) : bytesOf (a ++ b) = bytesOf a ++ bytesOf b := by
  unfold bytesOf
  rw [ByteArray.data_append, Array.toList_append, List.map_append]
theorem scan_shift (a : ByteArray) {b : ByteArray} {i : Nat} {l : List Int} {e : Option Nat} (h : Scan b i l e) : Scan (a ++ b) (a.size + i) l (e.map (a.size + ·)) := by
  induction h with
  | done =>
    have := Scan.done (s := a ++ b)
    rw [app_size] at this; exact this
  | @bad i hi h => exact .bad (by rw [app_size]; omega) (by rw [dec_app a b i hi]; exact h)
  | @step i x l e hi h k ih =>
    refine .step (by rw [app_size]; omega) (by rw [dec_app a b i hi]; exact h) ?_
    rw [Nat.add_assoc]; exact ih
theorem scan_join {a b : ByteArray} {la lb : List Int} {eb : Option Nat} (ha : Scan a 0 la none) (hb : Scan b 0 lb eb) : Scan (a ++ b) 0 (la ++ lb) (eb.map (a.size + ·)) := by
  obtain ⟨h1, h2, _⟩ := ha.says
  have h3 := h2 rfl
  rw [List.drop_zero] at h3
  have hlen : (encs la).length = a.size := by rw [← h3, bytesOf_length]
  refine Scan.glue la 0 h1 ⟨bytesOf b, by rw [List.drop_zero, bytesOf_app, h3]⟩ ?_
  rw [hlen, Nat.zero_add]
  exact scan_shift a hb
end Go.Proofs.YtgdfgahpjebcaaaDoor
