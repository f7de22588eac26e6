/- The contract of Block of codec's reader. -/
import Derived.Test.YtjpnhphnfbhpbaaCodecC
set_option linter.unusedVariables false
namespace Go.Proofs.Ytjpnhphnfbhpbaa
open Go Go.RowKit Go.Lib

/-- A block of the call's own, whatever is done to it, is no part of the frame. -/
theorem grownBy_over {w w1 w2 : World} (o : Obj) {q g : Nat} (h : (w.alloc o).grownBy w1 (some q)) (h2 : w1.grownBy w2 (some g)) (hg : w.heap.size ≤ g) : w.grownBy w2 (some q) := by
  have hs : (w.alloc o).heap.size = w.heap.size + 1 := by simp
  have h1 := h.size
  refine ⟨h2.os.trans h.os, h2.tape.trans h.tape, h2.output.trans h.output, by have := h2.size; omega, fun k hk hne => ?_⟩
  rw [h2.block k (by omega) (by simp; omega), h.block k (by omega) hne]
  exact Below.heap_alloc w o k hk

theorem run_arrayAt {P : Program} {t : TypeId} {e n : Nat} (ht : P.underlying t = some (.array n e)) (b o len c : Nat) (h : n ≤ len) (w : World) :
    (Instr.arrayAt t (.slice (some ⟨b, o, none⟩) len c)).run P w = .ok (.pointer (some ⟨b, o, none⟩)) w := by
  have h' : ¬ len < n := by omega
  simp [Instr.arrayAt, run_underlying ht, h']

/-- Eight bytes are taken. -/
theorem take_8 (lo hi q : Nat) (l : List UInt8) (w : World) (h : Rdr w 61 lo hi q (some l)) (h8 : 8 ≤ l.length) :
    Calls Try.prog 33 #[.pointer (some ⟨q, 0, none⟩), .int .u64 8] w fun e w' => ∃ b1 o1, e = .returned (.tuple #[.slice (some ⟨b1, o1, none⟩) 8 8, .int .i64 0]) ∧
      Rdr w' 61 lo hi q (some (l.drop 8)) ∧ Sl w' 1 (some ⟨b1, o1, none⟩) 8 8 (bv (l.take 8)) ∧ lo ≤ b1 ∧ b1 < hi ∧ b1 ≠ q ∧ w.grownBy w' (some q) := by
  refine (take_ok lo hi q l 8 _ h (by omega) (by omega)).mono ?_
  rintro e w1 ⟨a1, n1, rfl, hr1, hs1, hb1, hg1⟩
  have e1 : (8 : Int).toNat = 8 := rfl
  rw [e1] at hs1 hr1
  have hlen := hs1.len
  rw [bv_length, List.length_take] at hlen
  obtain rfl : n1 = 8 := by omega
  obtain ⟨b1, o1, rfl, hc⟩ := hs1.at (k := 0) (by rw [bv_length, List.length_take]; omega)
  have := hb1 _ rfl
  exact ⟨b1, o1, rfl, hr1, hs1, this.1, this.2.1, this.2.2, hg1⟩

set_option maxRecDepth 100000 in
set_option maxHeartbeats 400000 in
theorem block_any (lo hi q : Nat) (s : Option (List UInt8)) (w : World) (h : Rdr w 61 lo hi q s) :
    Calls Try.prog 27 #[.pointer (some ⟨q, 0, none⟩)] w fun e w' => e = .returned (.tuple #[.agg (bv (kV s)).toArray, .int .i64 (kE s)]) ∧ Rdr w' 61 lo hi q (kS s) ∧ w.grownBy w' (some q) := by
  have hhi := h.hi_le
  have hlt := h.lt_hi
  rcases hk : kR s with _ | ⟨x, r⟩
  · obtain ⟨r1, r2, r3⟩ := k_bad hk
    have R := Lib.hid (And.intro r1 (And.intro r2 r3))
    have hs8 : Hid (∀ l, s = some l → (l.length : Int) < 8) := by
      rintro l rfl
      by_cases h8 : 8 ≤ l.length
      · simp [kR, h8] at hk
      · omega
    clear hk r1 r2 r3
    go_enter Try.func27, Try.ntmps27
    go_wp2_with (first | (go_at_call 33; refine (take_bad lo hi q s 8 _ (h.below ((Below.refl _ _).alloc (Nat.le_refl _) _) hhi) (by omega) (by omega) hs8.out).mono ?_; rintro e w1 ⟨rfl, hr1, hg1⟩) | (with_reducible refine W_stop_store 31 ?_))
    have hcell : w1.heap[w.heap.size]? = some (.cells (bv [0, 0, 0, 0, 0, 0, 0, 0]).toArray 31 (0, 0)) := by
      rw [hg1.block _ (by simp) (by simp; omega), heap_alloc_new]; rfl
    refine Lib.hid (W_store_row 31 w.heap.size (bv [0, 0, 0, 0, 0, 0, 0, 0]).toArray 31 _ rfl rfl hcell (by kernel_rfl) rfl (all_oneCell_toArray (bv_one _)) ?_)
    go_wp2
    refine bodyPost_ret (results_row1 rfl _ _ w.heap.size 31 (bv [0, 0, 0, 0, 0, 0, 0, 0]).toArray _ rfl (setRow_at hcell) Try.underlying31 rfl (by kernel_rfl)) rfl ?_
    rw [R.out.1, R.out.2.1, R.out.2.2]
    refine ⟨rfl, hr1.other (grownBy_setRow _ _ _) (by omega), ?_⟩
    exact grownBy_over (w := w) _ hg1 (grownBy_setRow _ _ _) (Nat.le_refl _)
  · obtain ⟨r1, r2, r3⟩ := k_ok hk
    have R := Lib.hid (And.intro r1 (And.intro r2 r3))
    obtain ⟨l, rfl⟩ : ∃ l, s = some l := by cases s with | none => simp [kR] at hk | some l => exact ⟨l, rfl⟩
    have h8 : 8 ≤ l.length := by
      by_cases h8 : 8 ≤ l.length
      · exact h8
      · simp [kR, h8] at hk
    simp only [kR, if_pos h8, Option.some.injEq, Prod.mk.injEq] at hk
    obtain ⟨hx, hr⟩ := hk
    obtain ⟨x0, x1, x2, x3, x4, x5, x6, x7, hx8⟩ := list8 (l := x) (by rw [← hx, List.length_take]; omega)
    have HX := Lib.hid (hx.trans hx8)
    have HX2 := Lib.hid hx8
    have HR := Lib.hid hr
    clear hx hr hx8 r1 r2 r3
    have ka := fun (b o : Nat) (wx : World) => run_arrayAt (P := Try.prog) Try.underlying31 b o 8 8 (Nat.le_refl _) wx
    go_enter Try.func27, Try.ntmps27
    go_wp2_with (first | (go_at_call 33; refine (take_8 lo hi q l _ (h.below ((Below.refl _ _).alloc (Nat.le_refl _) _) hhi) h8).mono ?_; rintro e w1 ⟨b1, o1, rfl, hr1, hs1, hi1, hi2, hi3, hg1⟩) | (with_reducible refine W_stop_load 31 ?_))
    rw [HX.out] at hs1
    have hcell : w1.heap[w.heap.size]? = some (.cells (bv [0, 0, 0, 0, 0, 0, 0, 0]).toArray 31 (0, 0)) := by
      rw [hg1.block _ (by simp) (by simp; omega), heap_alloc_new]; rfl
    refine Lib.hid (W_load_mid 31 b1 o1 (bv [x0, x1, x2, x3, x4, x5, x6, x7]) _ rfl (rangeAt_of_sl hs1) Try.underlying31 rfl (by kernel_rfl) ?_)
    go_wp2_with (with_reducible refine W_stop_store 31 ?_)
    refine Lib.hid (W_store_row 31 w.heap.size (bv [x0, x1, x2, x3, x4, x5, x6, x7]).toArray 31 _ rfl rfl hcell (by kernel_rfl) rfl (all_oneCell_toArray (bv_one _)) ?_)
    go_wp2
    refine bodyPost_ret (results_row1 rfl _ _ w.heap.size 31 (bv [x0, x1, x2, x3, x4, x5, x6, x7]).toArray _ rfl (setRow_at hcell) Try.underlying31 rfl (by kernel_rfl)) rfl ?_
    rw [R.out.1, R.out.2.1, R.out.2.2, HX2.out, ← HR.out]
    exact ⟨rfl, hr1.other (grownBy_setRow _ _ _) (by omega), grownBy_over (w := w) _ hg1 (grownBy_setRow _ _ _) (Nat.le_refl _)⟩

end Go.Proofs.Ytjpnhphnfbhpbaa
