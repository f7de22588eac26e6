/- The contract of Int of codec's reader. -/
import Derived.Test.YtjpnhphnfbhpbaaCodecD
set_option linter.unusedVariables false
namespace Go.Proofs.Ytjpnhphnfbhpbaa
open Go Go.RowKit Go.Lib

set_option maxRecDepth 100000 in
set_option maxHeartbeats 400000 in
theorem int_any (lo hi q : Nat) (s : Option (List UInt8)) (w : World) (h : Rdr w 61 lo hi q s) :
    Calls Try.prog 22 #[.pointer (some ⟨q, 0, none⟩)] w fun e w' => e = .returned (.tuple #[.int .i64 (unzig (uV s)), .int .i64 (uE s)]) ∧ Rdr w' 61 lo hi q (uS s) ∧ w.grownBy w' (some q) := by
  have hv := uV_lt s
  go_enter Try.func22, Try.ntmps22
  go_wp2_with (go_at_call 21; refine (uint_any lo hi q s _ h).mono ?_; rintro e w1 ⟨rfl, hr, hg⟩)
  go_ret2
  exact ⟨ret2_int (unzig_eq _ hv) rfl, hr, hg⟩

end Go.Proofs.Ytjpnhphnfbhpbaa
