/- The reading of a configuration as one of a label. -/
import Derived.Test.YtjjknjkpkoeelaaReadL
import Derived.Test.YtjjknjkpkoeelaaLblE
set_option linter.unusedVariables false
namespace Go.Proofs.Ytjjknjkpkoeelaa
open Go Go.ChangeShapes Go.WideShapes Go.ChangeAt Go.RowKit

theorem rd_cfgL {H : Type} {enc : TypeId × Value → H} {w : World} {fuel : Nat} {cs : List Value} {x : DataW H × List MemPlace} (h : DataW.trod enc Try.prog w 0 (fun _ => true) true fuel 26 cs = some x) :
    ∃ l : Lb, cs = l.cfgv.toList ∧ (-9223372036854775808 ≤ l.ca ∧ l.ca ≤ 9223372036854775807 ∧ -9223372036854775808 ≤ l.cl ∧ l.cl ≤ 9223372036854775807) := by
  obtain ⟨p0, p1, p2, p3, p4, p5, p6, p7, p8, p9, p10, rfl, -, -, -, -, -, -, -, -, -, w9, w10⟩ := rd_cfg h
  have j9 := bounds_i64 w9
  have j10 := bounds_i64 w10
  exact ⟨⟨0, 0, 0, 0, p0, p1, p2, p3, p4, p5, p6, p7, p8, p9, p10, [], 0, 0, 0⟩, rfl, by simp only; omega, by simp only; omega, by simp only; omega, by simp only; omega⟩

end Go.Proofs.Ytjjknjkpkoeelaa
