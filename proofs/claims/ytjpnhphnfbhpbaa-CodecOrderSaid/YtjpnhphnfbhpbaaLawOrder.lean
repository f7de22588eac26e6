/- The walk of CodecOrder. -/
import Derived.Test.YtjpnhphnfbhpbaaAwake09
import Derived.Test.YtjpnhphnfbhpbaaCodecP
import Derived.Test.YtjpnhphnfbhpbaaPlainOrder
import Derived.Test.YtjpnhphnfbhpbaaKit2
import Derived.Deep.RegionHeld3
set_option linter.unusedVariables false
namespace Go.Proofs.Ytjpnhphnfbhpbaa
open Go Go.RowKit Go.Lib

set_option maxRecDepth 100000 in
set_option maxHeartbeats 400000 in
theorem order_walk (m n l0 l1 : Int) (w : World) (hm0 : 0 ≤ m) (hm1 : m < 18446744073709551616) (hn0 : 0 ≤ n) (hn1 : n < 18446744073709551616)
    (h00 : -9223372036854775808 ≤ l0) (h01 : l0 ≤ 9223372036854775807) (h10 : -9223372036854775808 ≤ l1) (h11 : l1 ≤ 9223372036854775807) :
    Calls Try.prog 3 #[.int .u64 m, .int .u64 n, .agg #[.int .i64 l0, .int .i64 l1]] w fun e w' => e = .returned (.bool true) ∧ Below w.heap.size w w' := by
  go_enter Try.func3, Try.ntmps3
  go_wp2_with fail
  refine (awake09 _).mono ?_
  rintro e w1 ⟨rfl, hb1⟩
  have hB1 := ((Below.refl w.heap.size w).alloc (Nat.le_refl _) (.cells #[.int .i64 l0, .int .i64 l1] 23)).trans (hb1.mono (by simp))
  have c10 : w1.cell? ⟨w.heap.size, 0, none⟩ = some (.int .i64 l0) := (hb1.cell (p := ⟨w.heap.size, 0, none⟩) (by simp)).trans (by simp [World.cell?_alloc_at])
  have c11 : w1.cell? ⟨w.heap.size, 1, none⟩ = some (.int .i64 l1) := (hb1.cell (p := ⟨w.heap.size, 1, none⟩) (by simp)).trans (by simp [World.cell?_alloc_at])
  have hsz : w.heap.size < w1.heap.size := by have := hb1.size; simp at this; omega
  clear hb1
  go_wp2_with fail
  refine (appendUint_any none 0 0 [] m _ (Sl.nilv _ _) (by decide) hm0 hm1).mono ?_
  rintro e w2 ⟨a2, n2, c2, rfl, ho2, hb2⟩
  go_wp2_with fail
  refine (appendUint_any none 0 0 [] n _ (Sl.nilv _ _) (by decide) hn0 hn1).mono ?_
  rintro e w3 ⟨a3, n3, c3, rfl, ho3, hb3⟩
  rw [List.nil_append] at ho2 ho3
  have hs2 := (Sl.of_owns ho2 (bv_one _)).2.below hb3
  have hs3 := (Sl.of_owns ho3 (bv_one _)).2
  have hB3 := (hB1.trans (hb2.mono (by omega))).trans (hb3.mono (by have := hb2.size; omega))
  have c30 : w3.cell? ⟨w.heap.size, 0, none⟩ = some (.int .i64 l0) := (hb3.cell (p := ⟨w.heap.size, 0, none⟩) (by have := hb2.size; simp; omega)).trans ((hb2.cell (p := ⟨w.heap.size, 0, none⟩) (by simpa using hsz)).trans c10)
  have c31 : w3.cell? ⟨w.heap.size, 1, none⟩ = some (.int .i64 l1) := (hb3.cell (p := ⟨w.heap.size, 1, none⟩) (by have := hb2.size; simp; omega)).trans ((hb2.cell (p := ⟨w.heap.size, 1, none⟩) (by simpa using hsz)).trans c11)
  have hsz3 : w.heap.size < w3.heap.size := by have := hb2.size; have := hb3.size; omega
  clear hb2 hb3 ho2 ho3 c10 c11 hsz hB1
  have hlm := uvarint_length64 (x := m.toNat) (by omega)
  have hln := uvarint_length64 (x := n.toNat) (by omega)
  have tok : True := trivial
  go_wp2_with fail
  go_region_held3 (fun w' => w'.cell? ⟨w.heap.size, 0, none⟩ = some (.int .i64 l0) ∧ w'.cell? ⟨w.heap.size, 1, none⟩ = some (.int .i64 l1))
    (first
      | exact ⟨c30, c31⟩
      | exact ⟨below_cell hb5 (by have := hb4.size; simp at this ⊢; omega) (below_cell hb4 (by simpa using hsz3) c30), below_cell hb5 (by have := hb4.size; simp at this ⊢; omega) (below_cell hb4 (by simpa using hsz3) c31)⟩
      | exact ⟨below_cell hb4 (by simpa using hsz3) c30, below_cell hb4 (by simpa using hsz3) c31⟩)
    (first
      | (go_at_call 12; have _t := tok; refine (appendInt_any none 0 0 [] _ _ (Sl.nilv _ _) (by decide) (by omega) (by omega)).mono ?_; rintro e w4 ⟨a4, n4, c4, rfl, ho4, hb4⟩; clear tok)
      | (go_at_call 12; refine (appendInt_any none 0 0 [] _ _ (Sl.nilv _ _) (by decide) (by omega) (by omega)).mono ?_; rintro e w5 ⟨a5, n5, c5, rfl, ho5, hb5⟩))
  rw [List.nil_append] at ho4 ho5
  have hs20 := (Sl.drew hs2).below (w' := w5) ((hb4.trans (hb5.mono hb4.size)))
  have hs30 := (Sl.drew hs3).below (w' := w5) ((hb4.trans (hb5.mono hb4.size)))
  have hs40 := (Sl.of_owns ho4 (bv_one _)).2.below hb5
  have hs50 := (Sl.of_owns ho5 (bv_one _)).2
  have hB5 := (hB3.drew).trans ((hb4.trans (hb5.mono hb4.size)).mono (by simpa using Nat.le_of_lt hsz3))
  have hl0 := uvarint_length64 (zigzag_lt h00 h01)
  have hl1 := uvarint_length64 (zigzag_lt h10 h11)
  have c50 : w5.cell? ⟨w.heap.size, 0, none⟩ = some (.int .i64 l0) := below_cell hb5 (by have := hb4.size; simp at this ⊢; omega) (below_cell hb4 (by simpa using hsz3) c30)
  have c51 : w5.cell? ⟨w.heap.size, 1, none⟩ = some (.int .i64 l1) := below_cell hb5 (by have := hb4.size; simp at this ⊢; omega) (below_cell hb4 (by simpa using hsz3) c31)
  have p1 : ∀ nq, Calls Try.prog 13 #[.slice a2 n2 c2, .slice a3 n3 c3] (w5.drewN nq) fun e w' => e = .returned (.bool (m == n)) ∧ ∃ k, w' = (w5.drewN nq).drewN k := fun nq => by
    have := prefix_any a2 n2 c2 _ a3 n3 c3 _ (w5.drewN nq) (hs20.drewN nq) (by omega) (hs30.drewN nq) (by omega)
    rwa [prefix_nat m n hm0 hn0] at this
  have p2 : ∀ nq, Calls Try.prog 13 #[.slice a4 n4 c4, .slice a5 n5 c5] (w5.drewN nq) fun e w' => e = .returned (.bool (l0 == l1)) ∧ ∃ k, w' = (w5.drewN nq).drewN k := fun nq => by
    have := prefix_any a4 n4 c4 _ a5 n5 c5 _ (w5.drewN nq) (hs40.drewN nq) (by omega) (hs50.drewN nq) (by omega)
    rwa [prefix_int l0 l1] at this
  have P1 := Lib.hid p1
  have P2 := Lib.hid p2
  clear p1 p2 hb4 hb5 ho4 ho5 c30 c31 hs2 hs3 hs20 hs30 hs40 hs50 hB3 hl0 hl1 hlm hln hsz3
  go_wp2_with fail
  go_quiet (first
    | (go_at_call_of 13 a2; exact Calls.quiet_of (P1.out _))
    | (go_at_call_of 13 a4; exact Calls.quiet_of (P2.out _)))
  go_wp2
  go_ret
  exact ⟨rfl, below_drewN hB5 _⟩

end Go.Proofs.Ytjpnhphnfbhpbaa
