/- The contract of Left of codec's reader. -/
import Derived.Test.YtjpnhphnfbhpbaaCodecC
set_option linter.unusedVariables false
namespace Go.Proofs.Ytjpnhphnfbhpbaa
open Go Go.RowKit Go.Lib

set_option maxRecDepth 100000 in
set_option maxHeartbeats 400000 in
theorem left_any (lo hi q : Nat) (s : Option (List UInt8)) (w : World) (h : Rdr w 61 lo hi q s) :
    Calls Try.prog 24 #[.pointer (some ⟨q, 0, none⟩)] w fun e w' => e = .returned (.int .i64 ((s.getD []).length : Int)) ∧ w = w' := by
  obtain ⟨a, n, c, h1, h2, h3⟩ := h.ex
  have hlen := h2.len
  rw [bv_length, Nat.mul_one] at hlen
  obtain ⟨c0, c1, fz⟩ := pair_cells h1
  clear fz h1
  rw [hlen]
  clear hlen
  go_enter Try.func24, Try.ntmps24
  go_wp2
  go_ret
  exact ⟨rfl, rfl⟩

end Go.Proofs.Ytjpnhphnfbhpbaa
