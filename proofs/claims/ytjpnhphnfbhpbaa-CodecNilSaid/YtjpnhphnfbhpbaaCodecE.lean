/- Contracts of Count and Bytes of codec's reader. -/
import Derived.Test.YtjpnhphnfbhpbaaCodecD
set_option linter.unusedVariables false
namespace Go.Proofs.Ytjpnhphnfbhpbaa
open Go Go.RowKit Go.Lib

set_option maxRecDepth 100000 in
set_option maxHeartbeats 400000 in
theorem count_any (lo hi q : Nat) (s : Option (List UInt8)) (m : Int) (w : World) (h : Rdr w 61 lo hi q s) (hm0 : -9223372036854775808 ≤ m) (hm1 : m ≤ 9223372036854775807) :
    Calls Try.prog 25 #[.pointer (some ⟨q, 0, none⟩), .int .i64 m] w fun e w' => e = .returned (.tuple #[.int .i64 (cV s m), .int .i64 (cE s m)]) ∧ Rdr w' 61 lo hi q (cS s m) ∧ w.grownBy w' (some q) := by
  rcases hu : rdU s with _ | ⟨v, r⟩
  · obtain ⟨q1, q2, q3⟩ := rdU_bad hu
    obtain ⟨r1, r2, r3⟩ := c_bad (m := m) hu
    have H3 := Lib.hid q3
    have R := Lib.hid (And.intro r1 (And.intro r2 r3))
    clear hu q3 r1 r2 r3
    go_enter Try.func25, Try.ntmps25
    go_wp2_with (first | (go_at_call 21; refine (uint_any lo hi q s _ h).mono ?_; rintro e w1 ⟨rfl, hr, hg⟩) | (go_at_call 34; refine (fail_any lo hi q _ _ hr).mono ?_; rintro e w2 ⟨rfl, hr2, hg2⟩))
    all_goals
      go_ret2
      rw [R.out.1, R.out.2.1, R.out.2.2, ← H3.out]
      exact ⟨rfl, hr, hg⟩
  · obtain ⟨q1, q2, q3⟩ := rdU_ok hu
    have hv := rdU_lt hu
    by_cases hm : (v : Int) ≤ m
    · obtain ⟨r1, r2, r3⟩ := c_ok hu hm
      have H3 := Lib.hid q3
      have R := Lib.hid (And.intro r1 (And.intro r2 r3))
      clear hu q3 r1 r2 r3
      go_enter Try.func25, Try.ntmps25
      go_wp2_with (first | (go_at_call 21; refine (uint_any lo hi q s _ h).mono ?_; rintro e w1 ⟨rfl, hr, hg⟩) | (go_at_call 34; refine (fail_any lo hi q _ _ hr).mono ?_; rintro e w2 ⟨rfl, hr2, hg2⟩))
      go_ret2
      rw [R.out.1, R.out.2.1, R.out.2.2, ← H3.out]
      exact ⟨rfl, hr, hg⟩
    · obtain ⟨r1, r2, r3⟩ := c_over hu hm
      have R := Lib.hid (And.intro r1 (And.intro r2 r3))
      clear hu q3 r1 r2 r3
      have hm' : m < (v : Int) := by omega
      clear hm
      by_cases hneg : m < 0
      all_goals
        go_enter Try.func25, Try.ntmps25
        go_wp2_with (first | (go_at_call 21; refine (uint_any lo hi q s _ h).mono ?_; rintro e w1 ⟨rfl, hr, hg⟩) | (go_at_call 34; refine (fail_any lo hi q _ _ hr).mono ?_; rintro e w2 ⟨rfl, hr2, hg2⟩))
        go_ret2
        rw [R.out.1, R.out.2.1, R.out.2.2]
        exact ⟨rfl, hr2, grownBy_trans hg hg2⟩

/-- What the methods that hand back bytes or a block say of them: they lie in the reader's own memory. -/
def Inside (lo hi q : Nat) (a : Option Addr) : Prop := ∀ ad, a = some ad → lo ≤ ad.block ∧ ad.block < hi ∧ ad.block ≠ q

set_option maxRecDepth 100000 in
set_option maxHeartbeats 400000 in
theorem bytes_any (lo hi q : Nat) (s : Option (List UInt8)) (w : World) (h : Rdr w 61 lo hi q s) :
    Calls Try.prog 23 #[.pointer (some ⟨q, 0, none⟩)] w fun e w' => ∃ a' n' c', e = .returned (.tuple #[.slice a' n' c', .int .i64 (bE s)]) ∧ Sl w' 1 a' n' c' (bv (bV s)) ∧ Inside lo hi q a' ∧ Rdr w' 61 lo hi q (bS s) ∧ w.grownBy w' (some q) := by
  rcases hu : rdU s with _ | ⟨v, r⟩
  · obtain ⟨q1, q2, q3⟩ := rdU_bad hu
    obtain ⟨r1, r2, r3⟩ := b_bad (s := s) (by rw [bR, hu])
    have H3 := Lib.hid q3
    have R := Lib.hid (And.intro r1 (And.intro r2 r3))
    clear hu q3 r1 r2 r3
    go_enter Try.func23, Try.ntmps23
    go_wp2_with (first | (go_at_call 21; refine (uint_any lo hi q s _ h).mono ?_; rintro e w1 ⟨rfl, hr, hg⟩))
    go_ret2
    rw [R.out.1, R.out.2.1, R.out.2.2, ← H3.out]
    exact ⟨none, 0, 0, rfl, Sl.nilv _ _, fun ad e => (by cases e), hr, hg⟩
  · obtain ⟨q1, q2, q3⟩ := rdU_ok hu
    have hv := rdU_lt hu
    have H3 := Lib.hid q3
    clear q3
    by_cases hl : v ≤ r.length
    · obtain ⟨r1, r2, r3⟩ := b_ok (s := s) (x := r.take v) (r := r.drop v) (by rw [bR, hu]; exact if_pos hl)
      have R := Lib.hid (And.intro r1 (And.intro r2 r3))
      clear hu r1 r2 r3
      go_enter Try.func23, Try.ntmps23
      go_wp2_with (first | (go_at_call 21; refine (uint_any lo hi q s _ h).mono ?_; rintro e w1 ⟨rfl, hr, hg⟩; rw [H3.out] at hr) | (go_at_call 33; refine (take_ok lo hi q r _ _ hr (by omega) (by omega)).mono ?_; rintro e w2 ⟨a2, n2, rfl, hr2, hs2, hi2, hg2⟩))
      go_ret2
      rw [R.out.1, R.out.2.1, R.out.2.2]
      exact ⟨a2, n2, n2, rfl, by simpa using hs2, hi2, by simpa using hr2, grownBy_trans hg hg2⟩
    · obtain ⟨r1, r2, r3⟩ := b_bad (s := s) (by rw [bR, hu]; exact if_neg hl)
      have R := Lib.hid (And.intro r1 (And.intro r2 r3))
      clear hu r1 r2 r3
      go_enter Try.func23, Try.ntmps23
      go_wp2_with (first | (go_at_call 21; refine (uint_any lo hi q s _ h).mono ?_; rintro e w1 ⟨rfl, hr, hg⟩; rw [H3.out] at hr) | (go_at_call 33; refine (take_bad lo hi q (some r) _ _ hr (by omega) (by omega) (by intro l e; cases e; omega)).mono ?_; rintro e w2 ⟨rfl, hr2, hg2⟩))
      go_ret2
      rw [R.out.1, R.out.2.1, R.out.2.2]
      exact ⟨none, 0, 0, rfl, Sl.nilv _ _, fun ad e => (by cases e), hr2, grownBy_trans hg hg2⟩

end Go.Proofs.Ytjpnhphnfbhpbaa
