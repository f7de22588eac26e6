/- More words: cells behind calls that only make memory. -/
import Derived.Test.YtjpnhphnfbhpbaaKit
set_option linter.unusedVariables false
namespace Go.Proofs.Ytjpnhphnfbhpbaa
open Go Go.RowKit

theorem below_cell {B : Nat} {w w' : World} (h : Below B w w') {k o : Nat} {v : Value} (hk : k < B) (hc : w.cell? ⟨k, o, none⟩ = some v) : w'.cell? ⟨k, o, none⟩ = some v :=
  (h.cell (p := ⟨k, o, none⟩) hk).trans hc

end Go.Proofs.Ytjpnhphnfbhpbaa
