/- Contracts of AppendBlock of codec and of its reference. -/
import Derived.Test.YtjpnhphnfbhpbaaCodecA
set_option linter.unusedVariables false
namespace Go.Proofs.Ytjpnhphnfbhpbaa
open Go Go.RowKit Go.Lib

set_option maxRecDepth 100000 in
set_option maxHeartbeats 400000 in
theorem appendBlock_any (a : Option Addr) (n c : Nat) (l : List UInt8) (x0 x1 x2 x3 x4 x5 x6 x7 : UInt8) (w : World) (h : Sl w 1 a n c (bv l)) (hl : l.length ≤ 1000000) :
    Calls Try.prog 18 #[.slice a n c, .agg (bv [x0, x1, x2, x3, x4, x5, x6, x7]).toArray] w fun e w' => ∃ a' n' c', e = .returned (.slice a' n' c') ∧ w'.ownsRow w.heap.size 5 1 (.slice a' n' c') n' (bv (l ++ [x0, x1, x2, x3, x4, x5, x6, x7])) ∧ Below w.heap.size w w' := by
  have hn : n ≤ 1000000 := by have := h.len; rw [bv_length] at this; omega
  simp only [bv, List.map_cons, List.map_nil]
  go_enter Try.func18, Try.ntmps18
  go_wp2_with fail
  go_region_law (first | (refine step_appendB rfl _ _ rfl w.heap.size _ n1 l rfl (ownsRow_base hown (by simp)) _ 8 8 [x0, x1, x2, x3, x4, x5, x6, x7] rfl (Sl.below (Sl.drew (Sl.lit w (bv [x0, x1, x2, x3, x4, x5, x6, x7]).toArray 31 8 rfl (by decide) (bv_one _))) hb) (by have := hown.1; rw [bv_length] at this; omega) (by have := hb.size; simp at this; omega) ?_; intro a3 c3 w3 hown3 hg3) | (go_simp; go_at_call 32; refine (cloneB_any a n c l _ (by exact (h.below ((Below.refl _ _).alloc (Nat.le_refl _) _)).drew) hl).mono ?_; rintro e w1 ⟨a1, n1, c1, rfl, hown, hb⟩))
  have hb1 := ((((Below.refl w.heap.size w).alloc (Nat.le_refl _) _).drew.trans (hb.mono (by simp))).grown hg3 (by have := hb.size; simp at this; omega) (fun j hj => (by have := (hown.lt j hj).1; simp at this; omega)))
  clear hg3 hb
  go_wp2
  go_ret
  exact ⟨a3, _, c3, rfl, hown3, hb1⟩

set_option maxRecDepth 100000 in
set_option maxHeartbeats 400000 in
theorem refAppendBlock_any (a : Option Addr) (n c : Nat) (l : List UInt8) (x0 x1 x2 x3 x4 x5 x6 x7 : UInt8) (w : World) (h : Sl w 1 a n c (bv l)) (hl : l.length ≤ 1000000) :
    Calls Try.prog 19 #[.slice a n c, .agg (bv [x0, x1, x2, x3, x4, x5, x6, x7]).toArray] w fun e w' => ∃ a' n' c', e = .returned (.slice a' n' c') ∧ w'.ownsRow w.heap.size 5 1 (.slice a' n' c') n' (bv (l ++ [x0, x1, x2, x3, x4, x5, x6, x7])) ∧ Below w.heap.size w w' := by
  have hn : n ≤ 1000000 := by have := h.len; rw [bv_length] at this; omega
  simp only [bv, List.map_cons, List.map_nil]
  go_enter Try.func19, Try.ntmps19
  go_wp2_with fail
  have tok : True := trivial
  have hX := Sl.drew (Sl.below (Sl.lit w (bv [x0, x1, x2, x3, x4, x5, x6, x7]).toArray 31 8 rfl (by decide) (bv_one _)) ((Below.refl _ _).alloc (Nat.le_refl _) (.cells #[] 5)))
  have hB := (((Below.refl w.heap.size w).alloc (Nat.le_refl _) (.cells (bv [x0, x1, x2, x3, x4, x5, x6, x7]).toArray 31)).alloc (by simp) (.cells #[] 5)).drew
  simp only [bv, List.map_cons, List.map_nil] at hX hB
  go_region_law (first | (have _t := tok; refine step_appendB rfl _ _ rfl w.heap.size (.slice (some ⟨w.heap.size + 1, 0, none⟩) 0 0) 0 [] rfl ((owns_empty' (w.alloc _) _ _ _ (w.heap.size + 1) (by simp) (by simp)).drew) _ n c l rfl (by exact Sl.below h hB) (by omega) (by simp; omega) ?_; intro a1 c1 w1 hown hg1; rw [Nat.zero_add, List.nil_append] at hown; have hX1 : Sl w1 1 (some ⟨w.heap.size, 0, none⟩) 8 8 (bv [x0, x1, x2, x3, x4, x5, x6, x7]) := Sl.keep hX (fun k hk ad had e => (by cases had; subst e; exact hg1.block _ hk (by simp [Value.ownBlock]))); have hB1 : Below w.heap.size w w1 := hB.grown hg1 (by simp; omega) (by simp [Value.ownBlock]); clear tok hg1 hX hB) | (refine step_appendB rfl _ _ rfl w.heap.size (.slice a1 n c1) n l rfl hown _ 8 8 [x0, x1, x2, x3, x4, x5, x6, x7] rfl hX1 (by omega) hB1.size ?_; intro a3 c3 w3 hown3 hg3))
  have hB3 := hB1.grown hg3 hB1.size (fun j hj => (hown.lt j hj).1)
  clear hg3 hB1 hX1 hown
  go_wp2
  go_ret
  exact ⟨a3, _, c3, rfl, hown3, hB3⟩

end Go.Proofs.Ytjpnhphnfbhpbaa
