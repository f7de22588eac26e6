/- Contracts of AppendInt of codec and of its reference. -/
import Derived.Test.YtjpnhphnfbhpbaaCodecA
set_option linter.unusedVariables false
namespace Go.Proofs.Ytjpnhphnfbhpbaa
open Go Go.RowKit Go.Lib

set_option maxRecDepth 100000 in
set_option maxHeartbeats 400000 in
theorem appendInt_any (a : Option Addr) (n c : Nat) (l : List UInt8) (k : Int) (w : World) (h : Sl w 1 a n c (bv l)) (hl : l.length ≤ 1000000) (h0 : -9223372036854775808 ≤ k) (h1 : k ≤ 9223372036854775807) :
    Calls Try.prog 12 #[.slice a n c, .int .i64 k] w fun e w' => ∃ a' n' c', e = .returned (.slice a' n' c') ∧ w'.ownsRow w.heap.size 5 1 (.slice a' n' c') n' (bv (l ++ uvarint (zigzag k))) ∧ Below w.heap.size w w' := by
  have hz := zigzag_lt h0 h1
  go_enter Try.func12, Try.ntmps12
  go_wp2_with (go_at_call 11; rw [zz_eq k h0 h1]; refine (appendUint_any a n c l _ _ h hl (by omega) (by omega)).mono ?_; rintro e w1 ⟨a1, n1, c1, rfl, hown, hb⟩)
  go_ret
  exact ⟨a1, n1, c1, rfl, by simpa using hown, hb⟩

set_option maxRecDepth 100000 in
set_option maxHeartbeats 400000 in
theorem refAppendInt_any (a : Option Addr) (n c : Nat) (l : List UInt8) (k : Int) (w : World) (h : Sl w 1 a n c (bv l)) (hl : l.length ≤ 1000000) (h0 : -9223372036854775808 ≤ k) (h1 : k ≤ 9223372036854775807) :
    Calls Try.prog 15 #[.slice a n c, .int .i64 k] w fun e w' => ∃ a' n' c', e = .returned (.slice a' n' c') ∧ w'.ownsRow w.heap.size 5 1 (.slice a' n' c') n' (bv (l ++ uvarint (zigzag k))) ∧ Below w.heap.size w w' := by
  have hz := zigzag_lt h0 h1
  by_cases hk : 0 ≤ k
  · go_enter Try.func15, Try.ntmps15
    go_wp2_with (go_at_call 14; rw [zz_pos k hk]; refine (refAppendUint_any a n c l _ _ h hl (by omega) (by omega)).mono ?_; rintro e w1 ⟨a1, n1, c1, rfl, hown, hb⟩)
    go_ret
    exact ⟨a1, n1, c1, rfl, by simpa using hown, hb⟩
  · have hk' : k < 0 := by omega
    clear hk
    go_enter Try.func15, Try.ntmps15
    go_wp2_with (go_at_call 14; rw [zz_neg k hk']; refine (refAppendUint_any a n c l _ _ h hl (by omega) (by omega)).mono ?_; rintro e w1 ⟨a1, n1, c1, rfl, hown, hb⟩)
    go_ret
    exact ⟨a1, n1, c1, rfl, by simpa using hown, hb⟩

end Go.Proofs.Ytjpnhphnfbhpbaa
