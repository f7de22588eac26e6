/- Two equal blocks are equal for Go's '=='. -/
import Derived.Test.YtjpnhphnfbhpbaaKit2
import Derived.Test.YtjpnhphnfbhpbaaCodecA
import Derived.Laws.StructEq
import Derived.Laws.Tables
import Derived.Laws.Cover2
set_option linter.unusedVariables false
namespace Go.Proofs.Ytjpnhphnfbhpbaa
open Go Go.RowKit

set_option maxRecDepth 100000 in
theorem eq_block_refl (x0 x1 x2 x3 x4 x5 x6 x7 : UInt8) (w : World) : (Op.equalIn 10000 31 (.agg (bv [x0, x1, x2, x3, x4, x5, x6, x7]).toArray) (.agg (bv [x0, x1, x2, x3, x4, x5, x6, x7]).toArray)).run Try.prog w = .ok true w := by
  have u3 := Try.underlying5
  have a3 := Try.isAgg5
  have z3 := Try.sizeOf5
  rw [show (10000 : Nat) = 9999 + 1 from rfl, Op.equalIn]
  simp only [bv, List.map_cons, List.map_nil, Sem.run_bind, run_underlying Try.underlying31, Result.andThen_ok]
  simp only [Std.Legacy.Range.forIn_eq_forIn_range', Std.Legacy.Range.size, Nat.sub_zero, Nat.add_sub_cancel, Nat.div_one, List.range'_succ, List.range'_zero, List.forIn_cons, List.forIn_nil]
  go_simp

end Go.Proofs.Ytjpnhphnfbhpbaa
