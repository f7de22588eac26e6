/- The contract of the law's prefix. -/
import Derived.Test.YtjpnhphnfbhpbaaCodecA
set_option linter.unusedVariables false
namespace Go.Proofs.Ytjpnhphnfbhpbaa
open Go Go.RowKit Go.Lib

set_option maxRecDepth 100000 in
set_option maxHeartbeats 400000 in
theorem prefix_any (a : Option Addr) (n c : Nat) (l : List UInt8) (a2 : Option Addr) (n2 c2 : Nat) (x : List UInt8) (w : World) (h : Sl w 1 a n c (bv l)) (hl : l.length ≤ 1000000) (hx : Sl w 1 a2 n2 c2 (bv x)) (hxl : x.length ≤ 1000000) :
    Calls Try.prog 13 #[.slice a n c, .slice a2 n2 c2] w fun e w' => e = .returned (.bool (l.take (min l.length x.length) == x.take (min l.length x.length))) ∧ ∃ nq, w' = w.drewN nq := by
  have h1 := h.len
  have h2 := hx.len
  have h3 := h.cap
  have h4 := hx.cap
  rw [bv_length] at h1 h2
  have hn : n ≤ 1000000 := by omega
  have hn2 : n2 ≤ 1000000 := by omega
  have H1 := Lib.hid h1
  have H2 := Lib.hid h2
  clear h1 h2
  obtain ⟨i0, hi, hz0, hz1, hz2⟩ := info_parts info_u8
  have HM : Hid (min l.length x.length = min n n2) := by rw [H1.out, H2.out, Nat.mul_one, Nat.mul_one]; rfl
  rcases Nat.lt_or_ge n2 n with hlt | hge
  · obtain ⟨b1, e1, s1⟩ := h.run_h (P := Try.prog) 25 5 i0 Try.underlying25 rfl hi hz1 n2 (by omega)
    obtain ⟨b2, e2, s2⟩ := hx.run_h (P := Try.prog) 25 5 i0 Try.underlying25 rfl hi hz1 n2 (Nat.le_refl _)
    rw [Nat.mul_one, bv_take] at s1 s2
    have q1 := fun nq => Sl.run_str (P := Try.prog) (w := w.drewN nq) (Sl.drewN s1 nq) 25 5 9 Try.underlying25 Try.underlying5 Try.underlying9
    have q2 := fun nq => Sl.run_str (P := Try.prog) (w := w.drewN nq) (Sl.drewN s2 nq) 25 5 9 Try.underlying25 Try.underlying5 Try.underlying9
    go_enter Try.func13, Try.ntmps13
    go_wp2_with fail
    go_quiet (fail)
    go_wp2
    go_ret
    refine ⟨?_, _, rfl⟩
    rw [HM.out, Nat.min_eq_right (by omega)]
    simp [Array.getD, strB_list]
  · obtain ⟨b1, e1, s1⟩ := h.run_h (P := Try.prog) 25 5 i0 Try.underlying25 rfl hi hz1 n (Nat.le_refl _)
    obtain ⟨b2, e2, s2⟩ := hx.run_h (P := Try.prog) 25 5 i0 Try.underlying25 rfl hi hz1 n hge
    rw [Nat.mul_one, bv_take] at s1 s2
    have q1 := fun nq => Sl.run_str (P := Try.prog) (w := w.drewN nq) (Sl.drewN s1 nq) 25 5 9 Try.underlying25 Try.underlying5 Try.underlying9
    have q2 := fun nq => Sl.run_str (P := Try.prog) (w := w.drewN nq) (Sl.drewN s2 nq) 25 5 9 Try.underlying25 Try.underlying5 Try.underlying9
    go_enter Try.func13, Try.ntmps13
    go_wp2_with fail
    go_quiet (fail)
    go_wp2
    go_ret
    refine ⟨?_, _, rfl⟩
    rw [HM.out, Nat.min_eq_left hge]
    simp [Array.getD, strB_list]

end Go.Proofs.Ytjpnhphnfbhpbaa
