/- Contracts of New and of the inner methods of codec's reader. -/
import Derived.Test.YtjpnhphnfbhpbaaCodecA
set_option linter.unusedVariables false
namespace Go.Proofs.Ytjpnhphnfbhpbaa
open Go Go.RowKit Go.Lib

set_option maxRecDepth 100000 in
set_option maxHeartbeats 400000 in
theorem new_any (a : Option Addr) (n c : Nat) (l : List UInt8) (w : World) (h : Sl w 1 a n c (bv l)) (hl : l.length ≤ 1000000) :
    Calls Try.prog 20 #[.slice a n c] w fun e w' => ∃ q, e = .returned (.pointer (some ⟨q, 0, none⟩)) ∧ Rdr w' 61 w.heap.size w'.heap.size q (some l) ∧ Below w.heap.size w w' := by
  go_enter Try.func20, Try.ntmps20
  go_wp2_with (go_at_call 32; refine (cloneB_any a n c l _ h hl).mono ?_; rintro e w1 ⟨a1, n1, c1, rfl, hown, hb⟩)
  go_ret
  have hsl := Sl.of_owns hown (bv_one _)
  have hw1 := heap_alloc_new w1 (.cells #[.slice a1 n1 c1, .bool false] 61)
  refine ⟨w1.heap.size, rfl, ⟨hb.size, by simp, Nat.le_refl _, hl, a1, n1, c1, hw1, hsl.2.below ((Below.refl _ _).alloc (Nat.le_refl _) _), fun ad e => ?_⟩, hb.alloc hb.size _⟩
  have := hown.lt ad.block (by rw [e]; rfl)
  simp
  omega

set_option maxRecDepth 100000 in
set_option maxHeartbeats 400000 in
theorem fail_any (lo hi q : Nat) (s : Option (List UInt8)) (w : World) (h : Rdr w 61 lo hi q s) :
    Calls Try.prog 34 #[.pointer (some ⟨q, 0, none⟩)] w fun e w' => e = .returned (.int .i64 5) ∧ Rdr w' 61 lo hi q none ∧ w.grownBy w' (some q) := by
  obtain ⟨a, n, c, h1, h2, h3⟩ := h.ex
  obtain ⟨c0, c1, fz⟩ := pair_cells h1
  have f0 := fz 0
  have f1 := fz 1
  have H1 := Lib.hid h1
  clear h1 fz
  go_enter Try.func34, Try.ntmps34
  go_wp2
  go_ret
  exact ⟨rfl, h.fail, grownBy_trans (grownBy_setCell _ _ _ _) (grownBy_setCell _ _ _ _)⟩

theorem fail_nil (w : World) :
    Calls Try.prog 34 #[.pointer none] w fun e w' => e = .returned (.int .i64 5) ∧ w = w' := by
  go_enter Try.func34, Try.ntmps34
  go_wp2
  go_ret
  exact ⟨rfl, rfl⟩

set_option maxRecDepth 100000 in
set_option maxHeartbeats 400000 in
theorem take_ok (lo hi q : Nat) (l : List UInt8) (x : Int) (w : World) (h : Rdr w 61 lo hi q (some l)) (hx : 0 ≤ x) (hxl : x ≤ l.length) :
    Calls Try.prog 33 #[.pointer (some ⟨q, 0, none⟩), .int .u64 x] w fun e w' => ∃ a' n', e = .returned (.tuple #[.slice a' n' n', .int .i64 0]) ∧
      Rdr w' 61 lo hi q (some (l.drop x.toNat)) ∧ Sl w' 1 a' n' n' (bv (l.take x.toNat)) ∧ (∀ ad, a' = some ad → lo ≤ ad.block ∧ ad.block < hi ∧ ad.block ≠ q) ∧ w.grownBy w' (some q) := by
  obtain ⟨k, rfl⟩ := Int.eq_ofNat_of_zero_le hx
  rw [Int.toNat_natCast]
  obtain ⟨a, n, c, h1, h2, h3⟩ := h.ex
  have hlen := h2.len
  rw [bv_length, Option.getD_some] at hlen
  have hmax := h.short
  rw [Option.getD_some] at h2 hmax
  obtain ⟨i0, hi0, hz0, hz1, hz2⟩ := info_parts info_u8
  have hkn : k ≤ n := by omega
  have hn : n ≤ 1000000 := by omega
  obtain ⟨a1, e1, s1, b1⟩ := h2.run_hm (P := Try.prog) 25 5 i0 Try.underlying25 rfl hi0 hz1 .u64 .u64 k hkn
  obtain ⟨a2, e2, s2, b2⟩ := h2.run_l' (P := Try.prog) 25 5 i0 Try.underlying25 rfl hi0 hz1 .u64 k hkn
  rw [Nat.mul_one, bv_take] at s1
  rw [Nat.mul_one, bv_drop] at s2
  obtain ⟨c0, c1, fz⟩ := pair_cells h1
  have f0 := fz 0
  have H1 := Lib.hid h1
  clear h1 fz hlen
  simp only [Option.isNone_some] at c1
  go_enter Try.func33, Try.ntmps33
  go_wp2
  go_ret2
  refine ⟨a1, k, rfl, h.set s2 (by rw [List.length_drop]; omega) ?_ rfl, s1.keep (fun j _ ad had e => ?_), ?_, grownBy_setCell _ _ _ _⟩
  · intro ad had
    obtain ⟨ad0, e0, e⟩ := b2 ad had
    rw [e]
    exact h3 ad0 e0
  · obtain ⟨ad0, e0, e'⟩ := b1 ad had
    have := h3 ad0 e0
    exact Below.heap_setCell _ _ _ _ (by subst e; rw [e']; exact this.2.2)
  · intro ad had
    obtain ⟨ad0, e0, e⟩ := b1 ad had
    rw [e]
    exact h3 ad0 e0

set_option maxRecDepth 100000 in
set_option maxHeartbeats 400000 in
theorem take_bad (lo hi q : Nat) (s : Option (List UInt8)) (x : Int) (w : World) (h : Rdr w 61 lo hi q s) (hx : 0 ≤ x) (hx2 : x < 18446744073709551616) (hxl : ∀ l, s = some l → (l.length : Int) < x) :
    Calls Try.prog 33 #[.pointer (some ⟨q, 0, none⟩), .int .u64 x] w fun e w' => e = .returned (.tuple #[.slice none 0 0, .int .i64 5]) ∧ Rdr w' 61 lo hi q none ∧ w.grownBy w' (some q) := by
  obtain ⟨a, n, c, h1, h2, h3⟩ := h.ex
  have hlen := h2.len
  rw [bv_length] at hlen
  have hmax := h.short
  obtain ⟨c0, c1, fz⟩ := pair_cells h1
  have H1 := Lib.hid h1
  clear h1 fz
  cases s with
  | none =>
    clear hlen
    simp only [Option.isNone_none] at c1
    go_enter Try.func33, Try.ntmps33
    go_wp2_with (go_at_call 34; refine (fail_any lo hi q none _ h).mono ?_; rintro e w1 ⟨rfl, hr, hg⟩)
    go_ret2
    exact ⟨rfl, hr, hg⟩
  | some l =>
    have hxn : (n : Int) < x := by have := hxl l rfl; simp only [Option.getD_some] at hlen; omega
    have hn : n ≤ 1000000 := by simp only [Option.getD_some] at hlen hmax; omega
    clear hlen hxl
    simp only [Option.isNone_some] at c1
    go_enter Try.func33, Try.ntmps33
    go_wp2_with (go_at_call 34; refine (fail_any lo hi q (some l) _ h).mono ?_; rintro e w1 ⟨rfl, hr, hg⟩)
    go_ret2
    exact ⟨rfl, hr, hg⟩

set_option maxRecDepth 100000 in
set_option maxHeartbeats 400000 in
theorem take_nil (x : Int) (w : World) :
    Calls Try.prog 33 #[.pointer none, .int .u64 x] w fun e w' => e = .returned (.tuple #[.slice none 0 0, .int .i64 5]) ∧ w = w' := by
  go_enter Try.func33, Try.ntmps33
  go_wp2_with (go_at_call 34; refine (fail_nil _).mono ?_; rintro e w1 ⟨rfl, rfl⟩)
  go_ret2
  exact ⟨rfl, rfl⟩

end Go.Proofs.Ytjpnhphnfbhpbaa
