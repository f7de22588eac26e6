/- The contract of Done of codec's reader. -/
import Derived.Test.YtjpnhphnfbhpbaaCodecC
set_option linter.unusedVariables false
namespace Go.Proofs.Ytjpnhphnfbhpbaa
open Go Go.RowKit Go.Lib

set_option maxRecDepth 100000 in
set_option maxHeartbeats 400000 in
theorem done_any (lo hi q : Nat) (s : Option (List UInt8)) (w : World) (h : Rdr w 61 lo hi q s) :
    Calls Try.prog 26 #[.pointer (some ⟨q, 0, none⟩)] w fun e w' => e = .returned (.int .i64 (dE s)) ∧ w = w' := by
  obtain ⟨a, n, c, h1, h2, h3⟩ := h.ex
  have hlen := h2.len
  rw [bv_length, Nat.mul_one] at hlen
  obtain ⟨c0, c1, fz⟩ := pair_cells h1
  clear fz h1
  rcases s with _ | _ | ⟨b, r⟩
  · simp only [Option.isNone_none] at c1
    clear hlen
    go_enter Try.func26, Try.ntmps26
    go_wp2
    go_ret
    exact ⟨rfl, rfl⟩
  · simp only [Option.isNone_some] at c1
    obtain rfl : n = 0 := by simpa using hlen.symm
    clear hlen
    go_enter Try.func26, Try.ntmps26
    go_wp2
    go_ret
    exact ⟨rfl, rfl⟩
  · simp only [Option.isNone_some] at c1
    have hn : 0 < n := by simp at hlen; omega
    clear hlen
    go_enter Try.func26, Try.ntmps26
    go_wp2
    go_ret
    exact ⟨rfl, rfl⟩

end Go.Proofs.Ytjpnhphnfbhpbaa
