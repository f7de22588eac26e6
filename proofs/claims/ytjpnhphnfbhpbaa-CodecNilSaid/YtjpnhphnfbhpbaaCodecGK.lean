/- Contracts of the reference's reader: Int, Count, Block. -/
import Derived.Test.YtjpnhphnfbhpbaaCodecG
import Derived.Test.YtjpnhphnfbhpbaaSteps
set_option linter.unusedVariables false
set_option linter.unusedSimpArgs false
namespace Go.Proofs.Ytjpnhphnfbhpbaa
open Go Go.RowKit Go.Lib

set_option maxRecDepth 100000 in
set_option maxHeartbeats 400000 in
theorem refInt_any (lo hi q : Nat) (s : Option (List UInt8)) (w : World) (h : Rdr w 64 lo hi q s) :
    Calls Try.prog 36 #[.pointer (some ⟨q, 0, none⟩)] w fun e w' => e = .returned (.tuple #[.int .i64 (unzig (uV s)), .int .i64 (uE s)]) ∧ Rdr w' 64 lo hi q (uS s) ∧ w.grownBy w' (some q) := by
  rcases hu : rdU s with _ | ⟨v, r⟩
  · obtain ⟨q1, q2, q3⟩ := rdU_bad hu
    have H := Lib.hid (And.intro q1 (And.intro q2 q3))
    have HQ := Lib.hid q1
    clear hu q1 q2 q3
    go_enter Try.func36, Try.ntmps36
    go_wp2_with (first | (go_at_call 35; refine (refUint_any lo hi q s _ h).mono ?_; rintro e w1 ⟨rfl, hr, hg⟩; rw [H.out.2.1]))
    go_ret2
    refine ⟨?_, hr, hg⟩
    rw [H.out.1, H.out.2.1]
    exact ret2_int (by decide) rfl
  · obtain ⟨q1, q2, q3⟩ := rdU_ok hu
    have hv := rdU_lt hu
    have H := Lib.hid (And.intro q1 (And.intro q2 q3))
    clear hu q1 q2 q3
    by_cases hp : (v : Int) % 2 = 0
    · go_enter Try.func36, Try.ntmps36
      go_wp2_with (first | (go_at_call 35; refine (refUint_any lo hi q s _ h).mono ?_; rintro e w1 ⟨rfl, hr, hg⟩; rw [H.out.1, H.out.2.1]))
      go_ret2
      refine ⟨?_, hr, hg⟩
      rw [H.out.1, H.out.2.1]
      refine ret2_int ?_ rfl
      unfold unzig
      rw [if_pos (by omega)]
      first | omega | simp
    · go_enter Try.func36, Try.ntmps36
      go_wp2_with (first | (go_at_call 35; refine (refUint_any lo hi q s _ h).mono ?_; rintro e w1 ⟨rfl, hr, hg⟩; rw [H.out.1, H.out.2.1]))
      go_ret2
      refine ⟨?_, hr, hg⟩
      rw [H.out.1, H.out.2.1]
      refine ret2_int ?_ rfl
      unfold unzig
      rw [if_neg (by omega)]
      first | omega | simp

set_option maxRecDepth 100000 in
set_option maxHeartbeats 400000 in
theorem refCount_any (lo hi q : Nat) (s : Option (List UInt8)) (m : Int) (w : World) (h : Rdr w 64 lo hi q s) (hm0 : 0 ≤ m) (hm1 : m ≤ 9223372036854775807) :
    Calls Try.prog 39 #[.pointer (some ⟨q, 0, none⟩), .int .i64 m] w fun e w' => e = .returned (.tuple #[.int .i64 (cV s m), .int .i64 (cE s m)]) ∧ Rdr w' 64 lo hi q (cS s m) ∧ w.grownBy w' (some q) := by
  rcases hu : rdU s with _ | ⟨v, r⟩
  · obtain ⟨q1, q2, q3⟩ := rdU_bad hu
    obtain ⟨r1, r2, r3⟩ := c_bad (m := m) hu
    have H := Lib.hid (And.intro q1 (And.intro q2 q3))
    have R := Lib.hid (And.intro r1 (And.intro r2 r3))
    clear hu q1 q2 q3 r1 r2 r3
    go_enter Try.func39, Try.ntmps39
    go_wp2_with (first | (go_at_call 35; refine (refUint_any lo hi q s _ h).mono ?_; rintro e w1 ⟨rfl, hr, hg⟩; rw [H.out.2.1]))
    go_ret2
    rw [R.out.1, R.out.2.1, R.out.2.2]
    rw [H.out.2.2] at hr
    exact ⟨rfl, hr, hg⟩
  · obtain ⟨q1, q2, q3⟩ := rdU_ok hu
    have hv := rdU_lt hu
    have H := Lib.hid (And.intro q1 (And.intro q2 q3))
    by_cases hle : (v : Int) ≤ m
    · obtain ⟨r1, r2, r3⟩ := c_ok (m := m) hu hle
      have R := Lib.hid (And.intro r1 (And.intro r2 r3))
      clear hu q1 q2 q3 r1 r2 r3
      go_enter Try.func39, Try.ntmps39
      go_wp2_with (first | (go_at_call 35; refine (refUint_any lo hi q s _ h).mono ?_; rintro e w1 ⟨rfl, hr, hg⟩; rw [H.out.1, H.out.2.1]))
      go_ret2
      rw [R.out.1, R.out.2.1, R.out.2.2]
      rw [H.out.2.2] at hr
      exact ⟨rfl, hr, hg⟩
    · obtain ⟨r1, r2, r3⟩ := c_over (m := m) hu hle
      have R := Lib.hid (And.intro r1 (And.intro r2 r3))
      clear hu q1 q2 q3 r1 r2 r3
      go_enter Try.func39, Try.ntmps39
      go_wp2_with (first | (go_at_call 35; refine (refUint_any lo hi q s _ h).mono ?_; rintro e w1 ⟨rfl, hr, hg⟩; rw [H.out.1, H.out.2.1]) | (go_at_call 40; refine (refFail_any lo hi q _ _ hr).mono ?_; rintro e w2 ⟨rfl, hr2, hg2⟩))
      go_ret2
      rw [R.out.1, R.out.2.1, R.out.2.2]
      exact ⟨rfl, hr2, grownBy_trans hg hg2⟩

theorem grownBy_sub {w w1 w2 : World} {q g : Nat} (h : w.grownBy w1 (some q)) (h2 : w1.grownBy w2 (some g)) (hg : w.heap.size ≤ g) : w.grownBy w2 (some q) :=
  ⟨h2.os.trans h.os, h2.tape.trans h.tape, h2.output.trans h.output, Nat.le_trans h.size h2.size, fun k hk hne => by
    rw [h2.block k (Nat.lt_of_lt_of_le hk h.size) (by simp; omega), h.block k hk hne]⟩

theorem fill_at (l : List UInt8) (i : Nat) (hi : i < 8) (hil : i < l.length) : (bv (l.take i ++ List.replicate (8 - i) 0))[i]? = some (.int .u8 0) := by
  have : (l.take i ++ List.replicate (8 - i) (0 : UInt8))[i]? = some 0 := by
    rw [List.getElem?_append_right (by rw [List.length_take]; omega), List.length_take, Nat.min_eq_left (by omega), Nat.sub_self, List.getElem?_replicate, if_pos (by omega)]
  simp only [bv, List.getElem?_map, this]
  rfl
theorem fill_set (l : List UInt8) (i : Nat) (hi : i < 8) (hil : i < l.length) : (l.take i ++ List.replicate (8 - i) 0).set i l[i] = l.take (i + 1) ++ List.replicate (8 - (i + 1)) 0 := by
  rw [List.set_append_right _ _ (by rw [List.length_take]; omega), List.length_take, Nat.min_eq_left (by omega), Nat.sub_self, show 8 - i = 8 - (i + 1) + 1 by omega, List.replicate_succ, List.set_cons_zero, List.take_succ_eq_append_getElem hil, List.append_assoc]
  rfl

theorem bv_set (l : List UInt8) (i : Nat) (b : UInt8) : (bv l).set i (.int .u8 (b.toNat : Int)) = bv (l.set i b) := by simp [bv, List.map_set]

set_option maxRecDepth 100000 in
set_option maxHeartbeats 800000 in
theorem refBlock_any (lo hi q : Nat) (s : Option (List UInt8)) (w : World) (h : Rdr w 64 lo hi q s) :
    Calls Try.prog 38 #[.pointer (some ⟨q, 0, none⟩)] w fun e w' => e = .returned (.tuple #[.agg (bv (kV s)).toArray, .int .i64 (kE s)]) ∧ Rdr w' 64 lo hi q (kS s) ∧ w.grownBy w' (some q) := by
  have hhi := h.hi_le
  have hlt := h.lt_hi
  obtain ⟨a, n, c, h1, h2, h3⟩ := h.ex
  have hlen := h2.len
  rw [bv_length, Nat.mul_one] at hlen
  obtain ⟨c0, c1, fz⟩ := pair_cells h1
  have hqs : q < w.heap.size := by omega
  rcases hk : kR s with _ | ⟨x, r⟩
  · obtain ⟨r1, r2, r3⟩ := k_bad hk
    have R := Lib.hid (And.intro r1 (And.intro r2 r3))
    have hs8 : (n : Int) < 8 := by
      cases s with
      | none => simp at hlen; omega
      | some l =>
        by_cases h8 : 8 ≤ l.length
        · simp [kR, h8] at hk
        · simp at hlen; omega
    clear hk r1 r2 r3 hlen h1 c1 fz h2 h3
    go_enter Try.func38, Try.ntmps38
    go_wp2
    obtain ⟨wA, hwA⟩ : ∃ wA, wA = ((w.alloc (.cells #[.int .u8 0, .int .u8 0, .int .u8 0, .int .u8 0, .int .u8 0, .int .u8 0, .int .u8 0, .int .u8 0] 31)).alloc (.cells #[.int .u8 0, .int .u8 0, .int .u8 0, .int .u8 0, .int .u8 0, .int .u8 0, .int .u8 0, .int .u8 0] 31)) := ⟨_, rfl⟩
    rw [← hwA]
    have hA1 : wA.heap[w.heap.size]? = some (.cells (bv [0, 0, 0, 0, 0, 0, 0, 0]).toArray 31 (0, 0)) := by
      rw [hwA, ((Below.refl _ (w.alloc (.cells #[.int .u8 0, .int .u8 0, .int .u8 0, .int .u8 0, .int .u8 0, .int .u8 0, .int .u8 0, .int .u8 0] 31))).alloc (Nat.le_refl _) _).block _ (by simp), heap_alloc_new]; rfl
    have hA2 : wA.heap[w.heap.size + 1]? = some (.cells (bv [0, 0, 0, 0, 0, 0, 0, 0]).toArray 31 (0, 0)) := by
      have := heap_alloc_new (w.alloc (.cells #[.int .u8 0, .int .u8 0, .int .u8 0, .int .u8 0, .int .u8 0, .int .u8 0, .int .u8 0, .int .u8 0] 31)) (.cells #[.int .u8 0, .int .u8 0, .int .u8 0, .int .u8 0, .int .u8 0, .int .u8 0, .int .u8 0, .int .u8 0] 31)
      rw [hwA, show w.heap.size + 1 = (w.alloc (.cells #[.int .u8 0, .int .u8 0, .int .u8 0, .int .u8 0, .int .u8 0, .int .u8 0, .int .u8 0, .int .u8 0] 31)).heap.size by simp, this]; rfl
    have hBA : Below w.heap.size w wA := by rw [hwA]; exact ((Below.refl _ _).alloc (Nat.le_refl _) _).alloc (by simp) _
    have RA := h.below hBA hhi
    have hr0 : ∀ (x : World), x.heap[w.heap.size + 1]? = some (.cells (bv [0, 0, 0, 0, 0, 0, 0, 0]).toArray 31 (0, 0)) → x.rangeAt (w.heap.size + 1) 0 (bv [0, 0, 0, 0, 0, 0, 0, 0]) := fun x hx j v hv => by
      rw [Nat.zero_add, cell_of_row x _ j _ _ _ hx]
      simpa using hv
    clear hwA
    refine RestS.begin (fun x => x.rangeAt (w.heap.size + 1) 0 (bv [0, 0, 0, 0, 0, 0, 0, 0])) 5 (by kernel_rfl) (by kernel_rfl) ?_
    refine RestS.takeMid 0 12 rfl (by kernel_rfl) (by kernel_rfl) (by kernel_rfl) 31 _ _ 0 (bv [0, 0, 0, 0, 0, 0, 0, 0]) _ (fun _ _ _ h => h) (by rfl) rfl rfl (fun x hx => hx) Try.underlying31 rfl (by rfl) (by rfl) (by simp only [Act.put, List.setIfInBounds_toArray, List.set_cons_zero, List.set_cons_succ] <;> rfl) (hr0 _ hA2) ?_
    refine RestS.take 1 13 rfl (by kernel_rfl) (by kernel_rfl) (by kernel_rfl) (fun _ _ _ h => h) (by rfl) (by rfl) (by intro x hx; go_simp <;> with_reducible rfl) (by simp only [Act.put, List.setIfInBounds_toArray, List.set_cons_zero, List.set_cons_succ] <;> rfl) (hr0 _ hA2) ?_
    refine RestS.step 2 rfl (by kernel_rfl) (by rfl) (fun K hK => ?_)
    go_simp
    go_at_call 40
    refine (refFail_any lo hi q _ _ RA.drew).mono ?_
    rintro e w2 ⟨rfl, hr2, hg2⟩
    have h2a : w2.heap[w.heap.size]? = some (.cells (bv [0, 0, 0, 0, 0, 0, 0, 0]).toArray 31 (0, 0)) := by
      rw [hg2.block _ (by have := (Array.getElem?_eq_some_iff.1 hA1).1; exact this) (by simp; omega)]; exact hA1
    have h2b : w2.heap[w.heap.size + 1]? = some (.cells (bv [0, 0, 0, 0, 0, 0, 0, 0]).toArray 31 (0, 0)) := by
      rw [hg2.block _ (by have := (Array.getElem?_eq_some_iff.1 hA2).1; exact this) (by simp; omega)]; exact hA2
    refine hK.out _ _ (hr0 _ h2b) ?_
    clear hK K
    refine RestS.step 3 rfl (by kernel_rfl) (by rfl) (fun K hK => ?_)
    refine wp_store_row 31 _ _ rfl w.heap.size (bv [0, 0, 0, 0, 0, 0, 0, 0]).toArray rfl rfl 31 _ h2a (by rfl) rfl (all_oneCell_toArray (bv_one _)) ?_
    have h3b : (w2.setRow w.heap.size (bv [0, 0, 0, 0, 0, 0, 0, 0]).toArray).heap[w.heap.size + 1]? = some (.cells (bv [0, 0, 0, 0, 0, 0, 0, 0]).toArray 31 (0, 0)) := by
      rw [setRow_other _ _ _ _ (by omega)]; exact h2b
    refine hK.out _ _ (hr0 _ h3b) ?_
    clear hK K
    refine RestS.take 4 3 rfl (by kernel_rfl) (by kernel_rfl) (by kernel_rfl) (fun _ _ _ h => h) (by rfl) (by rfl) (by intro x hx; go_simp <;> with_reducible rfl) (by simp only [Act.put, List.setIfInBounds_toArray, List.set_cons_zero, List.set_cons_succ] <;> rfl) (hr0 _ h3b) ?_
    refine wpAnyH_done (by kernel_rfl) ?_ _
    go_wp2
    refine bodyPost_ret (results_row1 rfl _ _ w.heap.size 31 (bv [0, 0, 0, 0, 0, 0, 0, 0]).toArray _ rfl (setRow_at h2a) Try.underlying31 rfl (by kernel_rfl)) rfl ?_
    rw [R.out.1, R.out.2.1, R.out.2.2]
    refine ⟨rfl, hr2.other (grownBy_setRow _ _ _) (by omega), ?_⟩
    have hgA : w.grownBy w2 (some q) := grownBy_trans (grownBy_below (Below.drew hBA)) hg2
    exact grownBy_sub hgA (grownBy_setRow _ _ _) (Nat.le_refl _)
  · obtain ⟨r1, r2, r3⟩ := k_ok hk
    have R := Lib.hid (And.intro r1 (And.intro r2 r3))
    clear r1 r2 r3
    obtain ⟨l, rfl⟩ : ∃ l, s = some l := by cases s with | none => simp [kR] at hk | some l => exact ⟨l, rfl⟩
    have h8 : 8 ≤ l.length := by
      by_cases h8 : 8 ≤ l.length
      · exact h8
      · simp [kR, h8] at hk
    simp only [kR, if_pos h8, Option.some.injEq, Prod.mk.injEq] at hk
    obtain ⟨hx, hr⟩ := hk
    simp only [Option.getD_some] at hlen h2
    have hshort := h.short
    simp only [Option.getD_some] at hshort
    have hs8 : ¬ (n : Int) < 8 := by omega
    obtain ⟨b, off, ha, hcell⟩ := h2.at (k := 0) (by rw [bv_length]; omega)
    subst ha
    obtain ⟨i0, hi0, hz0, hz1, hz2⟩ := info_parts info_u8
    obtain ⟨a2, e2, s2, b2⟩ := h2.run_l' (P := Try.prog) 25 5 i0 Try.underlying25 rfl hi0 hz1 .i64 8 (by omega)
    have hbb := h3 _ rfl
    simp only at hbb
    have HC := Lib.hid hcell
    have HX := Lib.hid hx
    have HR := Lib.hid hr
    have HL := Lib.hid hlen
    have H8 := Lib.hid h8
    have H2 := Lib.hid h2
    have S2 := Lib.hid s2
    have B2 := Lib.hid b2
    have E2 := Lib.hid e2
    have H1 := Lib.hid h1
    clear hx hr hcell hlen h1 c1 h2 s2 b2 e2 h8 fz h3
    go_enter Try.func38, Try.ntmps38
    go_wp2
    obtain ⟨wA, hwA⟩ : ∃ wA, wA = ((w.alloc (.cells #[.int .u8 0, .int .u8 0, .int .u8 0, .int .u8 0, .int .u8 0, .int .u8 0, .int .u8 0, .int .u8 0] 31)).alloc (.cells #[.int .u8 0, .int .u8 0, .int .u8 0, .int .u8 0, .int .u8 0, .int .u8 0, .int .u8 0, .int .u8 0] 31)) := ⟨_, rfl⟩
    rw [← hwA]
    have hA1 : wA.heap[w.heap.size]? = some (.cells (bv [0, 0, 0, 0, 0, 0, 0, 0]).toArray 31 (0, 0)) := by
      rw [hwA, ((Below.refl _ (w.alloc (.cells #[.int .u8 0, .int .u8 0, .int .u8 0, .int .u8 0, .int .u8 0, .int .u8 0, .int .u8 0, .int .u8 0] 31))).alloc (Nat.le_refl _) _).block _ (by simp), heap_alloc_new]; rfl
    have hA2 : wA.heap[w.heap.size + 1]? = some (.cells (bv [0, 0, 0, 0, 0, 0, 0, 0]).toArray 31 (0, 0)) := by
      have := heap_alloc_new (w.alloc (.cells #[.int .u8 0, .int .u8 0, .int .u8 0, .int .u8 0, .int .u8 0, .int .u8 0, .int .u8 0, .int .u8 0] 31)) (.cells #[.int .u8 0, .int .u8 0, .int .u8 0, .int .u8 0, .int .u8 0, .int .u8 0, .int .u8 0, .int .u8 0] 31)
      rw [hwA, show w.heap.size + 1 = (w.alloc (.cells #[.int .u8 0, .int .u8 0, .int .u8 0, .int .u8 0, .int .u8 0, .int .u8 0, .int .u8 0, .int .u8 0] 31)).heap.size by simp, this]; rfl
    have hBA : Below w.heap.size w wA := by rw [hwA]; exact ((Below.refl _ _).alloc (Nat.le_refl _) _).alloc (by simp) _
    have RA := h.below hBA hhi
    have hr0 : ∀ (x : World), x.heap[w.heap.size + 1]? = some (.cells (bv [0, 0, 0, 0, 0, 0, 0, 0]).toArray 31 (0, 0)) → x.rangeAt (w.heap.size + 1) 0 (bv [0, 0, 0, 0, 0, 0, 0, 0]) := fun x hx j v hv => by
      rw [Nat.zero_add, cell_of_row x _ j _ _ _ hx]
      simpa using hv
    clear hwA
    have HrA := Lib.hid RA
    clear RA
    go_loopw [5] (fun iv wr => ∃ i : Nat, iv = .int .i64 (i : Int) ∧ i ≤ 8 ∧ Hid (wr.heap[w.heap.size + 1]? = some (.cells (bv (l.take i ++ List.replicate (8 - i) 0)).toArray 31 (0, 0))) ∧ Hid (wA.grownBy wr (some (w.heap.size + 1)))) (fun iv _ => 8 - (intOf iv).toNat)
    case atStart => exact ⟨0, rfl, by omega, Lib.hid hA2, Lib.hid (World.grownBy.refl _ _)⟩
    case round =>
      obtain ⟨i, rfl, hi8, hrow, hg⟩ := hrel
      have szA := hg.out.size
      have szB := hBA.size
      have cr : wr.cell? ⟨q, 0, none⟩ = some (.slice (some ⟨b, off, none⟩) n c) := by
        rw [World.cell?_of_block (w := w) (by rw [hg.out.block q (by omega) (by simp; omega), hBA.block q hqs])]
        exact c0
      by_cases hi' : i < 8
      · have hiI : (i : Int) < 8 := by omega
        have hi0' : (0 : Int) ≤ (i : Int) := by omega
        have hin : (i : Int) < n := by omega
        have hil : i < l.length := by have := H8.out; omega
        have cb : wr.cell? ⟨b, off + i, none⟩ = some (.int .u8 (l[i].toNat : Int)) := by
          rw [World.cell?_of_block (w := w) (by rw [hg.out.block b (by omega) (by simp; omega), hBA.block b (by omega)])]
          have := HC.out i (by rw [bv_length]; exact hil)
          rw [this]
          simp [bv]
        have fr := frozen_of_row wr (w.heap.size + 1) i _ _ hrow.out
        have ce : wr.cell? ⟨w.heap.size + 1, i, none⟩ = some (.int .u8 0) := by
          rw [cell_of_row wr _ i _ _ _ hrow.out]
          simpa using fill_at l i hi' hil
        go_wp2
        go_roundw
        case rel =>
          refine ⟨i + 1, by go_num, by omega, Lib.hid ?_, Lib.hid (grownBy_trans hg.out (grownBy_setCell _ _ _ _))⟩
          rw [heap_setCell_same wr _ i _ _ _ hrow.out, List.setIfInBounds_toArray, bv_set, fill_set l i hi' hil]
        case measure => simp [intOf]; omega
      · have hiI : ¬ (i : Int) < 8 := by omega
        obtain rfl : 8 = i := by omega
        have hr8 := hrow.out
        rw [show l.take 8 ++ List.replicate (8 - 8) 0 = l.take 8 by simp, HX.out] at hr8
        have h2r := hA1
        rw [← hg.out.block _ (by have := (Array.getElem?_eq_some_iff.1 hA1).1; exact this) (by simp)] at h2r
        have h1r := H1.out
        rw [← hBA.block q hqs, ← hg.out.block q (by omega) (by simp; omega)] at h1r
        have fq := frozen_of_row wr q 0 _ _ h1r
        have hRr := Lib.hid (HrA.out.other hg.out (.inr (by omega)))
        have e2 : ∀ wx, (Instr.slice 25 (.slice (some ⟨b, off, none⟩) n c) (some (.int .i64 8)) none none).run Try.prog wx = .ok (.slice a2 (n - 8) (c - 8)) wx := E2.out
        have H8r := Lib.hid hr8
        have H2r := Lib.hid h2r
        have hcn : (8 : Int) ≤ n := by omega
        clear hrow hr8 h2r h1r hr0 hA1 hA2 i0 hi0 hz0 hz1 hz2
        go_wp2_with (with_reducible refine W_stop_load 31 ?_)
        obtain ⟨wS, hwS⟩ : ∃ wS, wS = wr.setCell ⟨q, 0, none⟩ (.slice a2 (n - 8) (c - 8)) := ⟨_, rfl⟩
        have hBr : Below w.heap.size w wr := hBA.trans (Below.of_grown hg.out (by omega) szB)
        have hgS : wr.grownBy wS (some q) := by rw [hwS]; exact grownBy_setCell _ _ _ _
        have hRS : Rdr wS 64 lo hi q (some r) := by
          rw [hwS]
          have hS := S2.out.below hBr
          rw [Nat.mul_one, bv_drop, HR.out] at hS
          refine hRr.out.set hS (by rw [← HR.out, List.length_drop]; omega) (fun ad had => ?_) rfl
          obtain ⟨ad0, e0, e1⟩ := B2.out ad had
          obtain rfl := Option.some.inj e0
          rw [e1]
          exact hbb
        have hS8 : wS.heap[w.heap.size + 1]? = some (.cells (bv x).toArray 31 (0, 0)) := by
          rw [hgS.block _ (by have := (Array.getElem?_eq_some_iff.1 H8r.out).1; exact this) (by simp; omega)]; exact H8r.out
        have hS2 : wS.heap[w.heap.size]? = some (.cells (bv [0, 0, 0, 0, 0, 0, 0, 0]).toArray 31 (0, 0)) := by
          rw [hgS.block _ (by have := (Array.getElem?_eq_some_iff.1 H2r.out).1; exact this) (by simp; omega)]; exact H2r.out
        have hx8 : x.length = 8 := by have := HX.out; have := H8.out; rw [← HX.out, List.length_take]; omega
        rw [← hwS]
        clear hwS
        refine Lib.hid (W_load_row 31 (w.heap.size + 1) 31 (bv x).toArray _ rfl hS8 Try.underlying31 rfl (by rw [List.size_toArray, bv_length, hx8]; kernel_rfl) ?_)
        refine Lib.hid (W_store_row 31 w.heap.size (bv x).toArray 31 _ rfl rfl hS2 (by rw [List.size_toArray, bv_length, hx8]; kernel_rfl) (by rw [List.size_toArray, List.size_toArray, bv_length, bv_length, hx8]; rfl) (all_oneCell_toArray (bv_one _)) ?_)
        go_wp2
        refine bodyPost_ret (results_row1 rfl _ _ w.heap.size 31 (bv x).toArray _ rfl (setRow_at hS2) Try.underlying31 rfl (by rw [List.size_toArray, bv_length, hx8]; kernel_rfl)) rfl ?_
        rw [R.out.1, R.out.2.1, R.out.2.2]
        exact ⟨rfl, hRS.other (grownBy_setRow _ _ _) (by omega), grownBy_sub (grownBy_trans (grownBy_below hBr) hgS) (grownBy_setRow _ _ _) (Nat.le_refl _)⟩

end Go.Proofs.Ytjpnhphnfbhpbaa
