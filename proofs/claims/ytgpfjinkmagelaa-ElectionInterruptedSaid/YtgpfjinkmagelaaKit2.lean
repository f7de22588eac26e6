/- More words: cells behind calls that only make memory. -/
import Derived.Test.YtgpfjinkmagelaaKit
set_option linter.unusedVariables false
namespace Go.Proofs.Ytgpfjinkmagelaa
open Go Go.RowKit

theorem below_cell {B : Nat} {w w' : World} (h : Below B w w') {k o : Nat} {v : Value} (hk : k < B) (hc : w.cell? ⟨k, o, none⟩ = some v) : w'.cell? ⟨k, o, none⟩ = some v :=
  (h.cell (p := ⟨k, o, none⟩) hk).trans hc

theorem Sl.run_h' {P : Program} {w : World} {es : Nat} {a : Option Addr} {n c : Nat} {l : List Value} (h : Sl w es a n c l) (t e : TypeId) (i : TypeInfo) (ht : P.underlying t = some (.slice (P.elem t))) (he : P.elem t = e) (hi : P.info? e = some i) (hs : i.size = es) (kh : IntKind)
    (k : Nat) (hk : k ≤ n) :
    ∃ a', (∀ wx, (Instr.slice t (.slice a n c) none (some (.int kh (k : Int))) none).run P wx = .ok (.slice a' k c) wx) ∧ Sl w es a' k c (l.take (k * es)) := by
  have hc := h.cap
  refine ⟨_, fun wx => ?_, by simpa using h.cut 0 k c (Nat.zero_le _) hk (by omega) (Nat.le_refl _)⟩
  subst he
  rw [run_slice_h wx t a n c ht kh k (by omega) (by omega)]
  simp [sizeOf, typeInfo, hi, hs, sliced]

end Go.Proofs.Ytgpfjinkmagelaa
