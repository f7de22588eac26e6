/- Contracts of AppendBytes of codec and of its reference. -/
import Derived.Test.YtjjknjkpkoeelaaCodecA
set_option linter.unusedVariables false
namespace Go.Proofs.Ytjjknjkpkoeelaa
open Go Go.RowKit Go.Lib

set_option maxRecDepth 100000 in
set_option maxHeartbeats 400000 in
theorem appendBytes_any (a : Option Addr) (n c : Nat) (l : List UInt8) (a2 : Option Addr) (n2 c2 : Nat) (x : List UInt8) (w : World) (h : Sl w 1 a n c (bv l)) (hl : l.length ≤ 1000000) (hx : Sl w 1 a2 n2 c2 (bv x)) (hxl : x.length ≤ 1000000) :
    Calls Try.prog 34 #[.slice a n c, .slice a2 n2 c2] w fun e w' => ∃ a' n' c', e = .returned (.slice a' n' c') ∧ w'.ownsRow w.heap.size 5 1 (.slice a' n' c') n' (bv (l ++ (uvarint x.length ++ x))) ∧ Below w.heap.size w w' := by
  have hn2 : Hid (x.length = n2) := by have := hx.len; rw [bv_length] at this; exact Lib.hid (by omega)
  have hn2' : n2 ≤ 1000000 := by rw [← hn2.out]; exact hxl
  have hlen10 := uvarint_length64 (x := n2) (by omega)
  go_enter Try.func34, Try.ntmps34
  go_wp2_with (first | (go_at_call 54; refine (appendUint_any a n c l _ _ h hl (by omega) (by omega)).mono ?_; rintro e w1 ⟨a1, n1, c1, rfl, hown, hb⟩; rw [Int.toNat_natCast] at hown) | (at_builtin; refine wpList_appendB _ rfl _ _ rfl w.heap.size _ n1 (l ++ uvarint n2) rfl hown _ n2 c2 x rfl (hx.below hb) ?g1 ?g2 ?g3))
  case g1 =>
    have := hown.1
    rw [bv_length, List.length_append] at this
    omega
  case g2 => exact hb.size
  case g3 =>
    intro a3 c3 w3 hown3 hg3
    have hbs := hb.size
    go_wp2
    go_ret
    exact ⟨a3, _, c3, rfl, by rw [hn2.out]; exact hown3, hb.grown hg3 hbs (fun j hj => (hown.lt j hj).1)⟩

set_option maxRecDepth 100000 in
set_option maxHeartbeats 400000 in
theorem refAppendBytes_any (a : Option Addr) (n c : Nat) (l : List UInt8) (a2 : Option Addr) (n2 c2 : Nat) (x : List UInt8) (w : World) (h : Sl w 1 a n c (bv l)) (hl : l.length ≤ 1000000) (hx : Sl w 1 a2 n2 c2 (bv x)) (hxl : x.length ≤ 1000000) :
    Calls Try.prog 49 #[.slice a n c, .slice a2 n2 c2] w fun e w' => ∃ a' n' c', e = .returned (.slice a' n' c') ∧ w'.ownsRow w.heap.size 5 1 (.slice a' n' c') n' (bv (l ++ (uvarint x.length ++ x))) ∧ Below w.heap.size w w' := by
  have hn2 : Hid (x.length = n2) := by have := hx.len; rw [bv_length] at this; exact Lib.hid (by omega)
  have hn2' : n2 ≤ 1000000 := by rw [← hn2.out]; exact hxl
  have hlen10 := uvarint_length64 (x := n2) (by omega)
  go_enter Try.func49, Try.ntmps49
  go_wp2_with (first | (go_at_call 47; refine (refAppendUint_any a n c l _ _ h hl (by omega) (by omega)).mono ?_; rintro e w1 ⟨a1, n1, c1, rfl, hown, hb⟩; rw [Int.toNat_natCast] at hown) | (at_builtin; refine wpList_appendB _ rfl _ _ rfl w.heap.size _ n1 (l ++ uvarint n2) rfl hown _ n2 c2 x rfl (hx.below hb) ?g1 ?g2 ?g3))
  case g1 =>
    have := hown.1
    rw [bv_length, List.length_append] at this
    omega
  case g2 => exact hb.size
  case g3 =>
    intro a3 c3 w3 hown3 hg3
    have hbs := hb.size
    go_wp2
    go_ret
    exact ⟨a3, _, c3, rfl, by rw [hn2.out]; exact hown3, hb.grown hg3 hbs (fun j hj => (hown.lt j hj).1)⟩

end Go.Proofs.Ytjjknjkpkoeelaa
