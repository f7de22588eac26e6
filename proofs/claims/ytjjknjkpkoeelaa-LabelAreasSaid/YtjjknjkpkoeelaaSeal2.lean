/- Labels: the reference's sealed bytes. -/
import Derived.Test.YtjjknjkpkoeelaaSeal
set_option linter.unusedVariables false
set_option linter.unusedSimpArgs false
namespace Go.Proofs.Ytjjknjkpkoeelaa
open Go Go.RowKit Go.Lib

set_option maxRecDepth 100000 in
set_option maxHeartbeats 800000 in
theorem refSealed_any (a : Option Addr) (n c : Nat) (l : List UInt8) (w : World) (h : Sl w 1 a n c (bv l)) (hl : l.length ≤ 1000000) :
    Calls Try.prog 48 #[.slice a n c] w fun e w' => ∃ a' n' c', e = .returned (.slice a' n' c') ∧ w'.ownsRow w.heap.size 5 1 (.slice a' n' c') n' (bv (sealL l)) ∧ Below w.heap.size w w' := by
  have hnl : n = l.length := by have := h.len; rw [bv_length] at this; omega
  have hn6 : n ≤ 1000000 := by omega
  have hc0 := (crc_u64 l).1
  have hc1 := (crc_u64 l).2
  obtain ⟨x, hx⟩ : ∃ x, x = crc l := ⟨_, rfl⟩
  rw [← hx] at hc0 hc1
  have HN := Lib.hid hnl
  clear hnl
  go_enter Try.func48, Try.ntmps48
  go_wp2_with (first | (go_at_call 67; refine (refSum_any a n c l _ h hl).mono ?_; rintro e w1 ⟨rfl, rfl⟩; rw [← hx]) | (at_builtin; refine wpList_appendB _ rfl _ _ rfl w.heap.size _ 0 [] rfl (owns_empty _ _ _ _ (Nat.le_refl _)) _ n c l rfl (h.below ((Below.refl _ _).alloc (Nat.le_refl _) _)) ?g1 ?g2 ?g3))
  case g1 => omega
  case g2 => simp
  case g3 =>
  intro a0 c0 w0 hown0 hg0
  have hb0 : Below w.heap.size w w0 := ((Below.refl _ _).alloc (Nat.le_refl _) _).grown hg0 (by simp) (by simp [Value.ownBlock])
  have HX := Lib.hid hx
  clear hg0 hx
  go_wp2
  go_loopw [4, 5] (fun bvv iv wr => ∃ (i : Nat) (a1 : Option Addr) (n1 c1 : Nat), iv = .int .i64 (7 - (i : Int)) ∧ i ≤ 8 ∧ bvv = .slice a1 n1 c1 ∧ n1 ≤ 1000010 ∧ Hid (n1 = n + i) ∧ Hid (wr.ownsRow w.heap.size 5 1 (.slice a1 n1 c1) n1 (bv (l ++ (List.range i).map (be8 x)))) ∧ Hid (Below w.heap.size w wr) ∧ w.heap.size ≤ wr.heap.size) (fun _ iv _ => (intOf iv + 1).toNat)
  case atStart => exact ⟨0, a0, _, c0, rfl, by omega, rfl, by omega, Lib.hid (by omega), Lib.hid (by simpa using hown0), Lib.hid hb0, hb0.size⟩
  case round =>
    clear h hown0 hb0
    obtain ⟨i, a1, n1, c1, rfl, hin, rfl, hn1, hne, hs1, hB, hbs⟩ := hrel
    by_cases hi : i < 8
    · obtain ⟨p, hp⟩ : ∃ p, p = l ++ (List.range i).map (be8 x) := ⟨_, rfl⟩
      obtain ⟨b, hb⟩ : ∃ b : UInt8, b = be8 x i := ⟨_, rfl⟩
      have hnext : Hid (p ++ [b] = l ++ (List.range (i + 1)).map (be8 x)) := by rw [hp, hb, List.range_succ]; exact Lib.hid (by simp)
      have hcell := be8_cell hc0 hc1 i
      rw [← hb] at hcell
      rw [← hp] at hs1
      have hs2 := hs1.out
      clear hp hb hs1
      obtain ⟨hi0, hq⟩ | ⟨hi0, hq⟩ | ⟨hi0, hq⟩ | ⟨hi0, hq⟩ | ⟨hi0, hq⟩ | ⟨hi0, hq⟩ | ⟨hi0, hq⟩ | ⟨hi0, hq⟩ : (i = 0 ∧ 7 - (i : Int) = 7) ∨ (i = 1 ∧ 7 - (i : Int) = 6) ∨ (i = 2 ∧ 7 - (i : Int) = 5) ∨ (i = 3 ∧ 7 - (i : Int) = 4) ∨ (i = 4 ∧ 7 - (i : Int) = 3) ∨ (i = 5 ∧ 7 - (i : Int) = 2) ∨ (i = 6 ∧ 7 - (i : Int) = 1) ∨ (i = 7 ∧ 7 - (i : Int) = 0) := by omega
      all_goals
        rw [hi0] at hcell
        simp only [Nat.reduceMul, Nat.reduceSub, Int.reducePow, Int.ediv_one] at hcell
        rw [hq]
        clear hq
        have HC := Lib.hid hcell
        clear hcell
        go_wp2_with (at_builtin; refine wpList_appendB _ rfl _ _ rfl w.heap.size _ n1 p rfl (hs2.alloc _) _ 1 1 [b] rfl (Sl.byte _ _ _ _ ?h0) ?h1 ?h2 ?h3)
        case h0 => first | exact HC.out | (rw [← HX.out]; exact HC.out)
        case h1 => omega
        case h2 => simp; omega
        case h3 =>
          intro a2 c2 w2 hown2 hg2
          go_wp2
          go_roundw
          case rel => exact ⟨i + 1, a2, n1 + 1, c2, by go_num, by omega, rfl, by have := hne.out; omega, Lib.hid (by have := hne.out; omega), Lib.hid (by rw [← hnext.out]; exact hown2), Lib.hid ((hB.out.alloc hbs _).grown hg2 (by simp; omega) (fun j hj => (hs2.lt j hj).1)), by have := hg2.size; simp at this; omega⟩
          case measure => simp [intOf]
    · have hiI : (7 : Int) - (i : Int) < 0 := by omega
      obtain rfl : i = 8 := by omega
      go_wp2
      go_ret
      refine ⟨a1, n1, c1, rfl, ?_, hB.out⟩
      have := hs1.out
      rw [HX.out] at this
      exact this

end Go.Proofs.Ytjjknjkpkoeelaa
