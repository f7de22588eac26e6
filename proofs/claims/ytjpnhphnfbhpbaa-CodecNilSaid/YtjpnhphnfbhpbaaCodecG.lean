/- Contracts of the reference's reader. -/
import Derived.Test.YtjpnhphnfbhpbaaCodecA
import Derived.Test.YtjpnhphnfbhpbaaKit2
set_option linter.unusedVariables false
namespace Go.Proofs.Ytjpnhphnfbhpbaa
open Go Go.RowKit Go.Lib

set_option maxRecDepth 100000 in
set_option maxHeartbeats 400000 in
theorem refNew_any (a : Option Addr) (n c : Nat) (l : List UInt8) (w : World) (h : Sl w 1 a n c (bv l)) (hl : l.length ≤ 1000000) :
    Calls Try.prog 28 #[.slice a n c] w fun e w' => ∃ q, e = .returned (.pointer (some ⟨q, 0, none⟩)) ∧ Rdr w' 64 w.heap.size w'.heap.size q (some l) ∧ Below w.heap.size w w' := by
  have hn : n ≤ 1000000 := by have := h.len; rw [bv_length] at this; omega
  go_enter Try.func28, Try.ntmps28
  go_wp2_with (at_builtin; refine wpList_appendB _ rfl _ _ rfl w.heap.size _ 0 [] rfl (owns_empty _ _ _ _ (Nat.le_refl _)) _ n c l rfl (h.below ((Below.refl _ _).alloc (Nat.le_refl _) _)) ?g1 ?g2 ?g3)
  case g1 => omega
  case g2 => simp
  case g3 =>
    intro a1 c1 w1 hown hg1
    have hb : Below w.heap.size w w1 := ((Below.refl _ _).alloc (Nat.le_refl _) _).grown hg1 (by simp) (by simp [Value.ownBlock])
    clear hg1
    go_wp2
    go_ret
    have hsl := Sl.of_owns hown (bv_one _)
    have hw1 := heap_alloc_new w1 (.cells #[.slice a1 n c1, .bool false] 64)
    refine ⟨w1.heap.size, rfl, ⟨hb.size, by simp, Nat.le_refl _, hl, a1, n, c1, hw1, hsl.2.below ((Below.refl _ _).alloc (Nat.le_refl _) _), fun ad e => ?_⟩, hb.alloc hb.size _⟩
    have := hown.lt ad.block (by rw [e]; rfl)
    simp
    omega

set_option maxRecDepth 100000 in
set_option maxHeartbeats 400000 in
theorem refFail_any (lo hi q : Nat) (s : Option (List UInt8)) (w : World) (h : Rdr w 64 lo hi q s) :
    Calls Try.prog 40 #[.pointer (some ⟨q, 0, none⟩)] w fun e w' => e = .returned (.int .i64 5) ∧ Rdr w' 64 lo hi q none ∧ w.grownBy w' (some q) := by
  obtain ⟨a, n, c, h1, h2, h3⟩ := h.ex
  obtain ⟨c0, c1, fz⟩ := pair_cells h1
  have f0 := fz 0
  have f1 := fz 1
  clear h1 fz
  go_enter Try.func40, Try.ntmps40
  go_wp2
  go_ret
  exact ⟨rfl, h.fail, grownBy_trans (grownBy_setCell _ _ _ _) (grownBy_setCell _ _ _ _)⟩

set_option maxRecDepth 100000 in
set_option maxHeartbeats 400000 in
theorem refDone_any (lo hi q : Nat) (s : Option (List UInt8)) (w : World) (h : Rdr w 64 lo hi q s) :
    Calls Try.prog 31 #[.pointer (some ⟨q, 0, none⟩)] w fun e w' => e = .returned (.int .i64 (dE s)) ∧ w = w' := by
  obtain ⟨a, n, c, h1, h2, h3⟩ := h.ex
  have hlen := h2.len
  rw [bv_length, Nat.mul_one] at hlen
  obtain ⟨c0, c1, fz⟩ := pair_cells h1
  clear fz h1
  rcases s with _ | _ | ⟨b, r⟩
  · simp only [Option.isNone_none] at c1
    clear hlen
    go_enter Try.func31, Try.ntmps31
    go_wp2
    go_ret
    exact ⟨rfl, rfl⟩
  · simp only [Option.isNone_some] at c1
    obtain rfl : n = 0 := by simpa using hlen.symm
    clear hlen
    go_enter Try.func31, Try.ntmps31
    go_wp2
    go_ret
    exact ⟨rfl, rfl⟩
  · simp only [Option.isNone_some] at c1
    have hn : 0 < n := by simp at hlen; omega
    clear hlen
    go_enter Try.func31, Try.ntmps31
    go_wp2
    go_ret
    exact ⟨rfl, rfl⟩

set_option maxRecDepth 100000 in
set_option maxHeartbeats 800000 in
theorem refUint_any (lo hi q : Nat) (s : Option (List UInt8)) (w : World) (h : Rdr w 64 lo hi q s) :
    Calls Try.prog 35 #[.pointer (some ⟨q, 0, none⟩)] w fun e w' => e = .returned (.tuple #[.int .u64 (uV s : Int), .int .i64 (uE s)]) ∧ Rdr w' 64 lo hi q (uS s) ∧ w.grownBy w' (some q) := by
  obtain ⟨a, n, c, h1, h2, h3⟩ := h.ex
  have hlen := h2.len
  rw [bv_length, Nat.mul_one] at hlen
  have hshort := h.short
  obtain ⟨l, hl⟩ : ∃ l, Hid (s.getD [] = l) := ⟨_, rfl⟩
  rw [hl.out] at h2 hlen hshort
  have hn : n ≤ 1000000 := by omega
  have hp0 : Hid (rdFrom 0 0 (l.drop 0) = rdU s) := by
    cases s with
    | none => have := hl.out; simp at this; subst this; rfl
    | some l' => have := hl.out; simp at this; subst this; rfl
  have HL := Lib.hid hlen
  obtain ⟨c0, c1, fz⟩ := pair_cells h1
  have f0 := fz 0
  clear fz hlen c1
  obtain ⟨i0, hi0, hz0, hz1, hz2⟩ := info_parts info_u8
  have H1 := Lib.hid h1
  clear h1
  go_enter Try.func35, Try.ntmps35
  go_wp2_with fail
  go_loopw [4, 5] (fun nv iv wr => ∃ (i acc : Nat), nv = .int .u64 (acc : Int) ∧ iv = .int .i64 (i : Int) ∧ i ≤ 9 ∧ i ≤ n ∧ acc < 2 ^ (7 * i) ∧ Hid (rdFrom i acc (l.drop i) = rdU s) ∧ w = wr) (fun _ iv _ => 10 - (intOf iv).toNat)
  case atStart => exact ⟨0, 0, rfl, rfl, by omega, by omega, by decide, hp0, rfl⟩
  case round =>
    obtain ⟨i, acc, rfl, rfl, hi9, hin, hacc, hp, rfl⟩ := hrel
    by_cases hlt : i < n
    · have hil : i < l.length := by have := HL.out; omega
      have hs : Hid (s = some l) := by
        cases s with
        | none => have := hl.out; simp at this; subst this; simp at hil
        | some l' => have := hl.out; simp at this; subst this; exact Lib.hid rfl
      obtain ⟨b, hb⟩ : ∃ b, Hid (l[i] = b) := ⟨l[i], Lib.hid rfl⟩
      have hdrop : Hid (l.drop i = b :: l.drop (i + 1)) := by rw [← hb.out]; exact Lib.hid (List.drop_eq_getElem_cons hil)
      have hb256 : (b.toNat : Int) < 256 := by have := b.toNat_lt; omega
      obtain ⟨bb, off, rfl, hcell⟩ := h2.at (k := i) (by rw [bv_length]; exact hil)
      have hci : w.cell? ⟨bb, off + i, none⟩ = some (.int .u8 (b.toNat : Int)) := by
        rw [hcell i (by rw [bv_length]; exact hil), ← hb.out]; simp [bv]
      have hq3 := h3 _ rfl
      by_cases h9 : i = 9
      · subst h9
        obtain ⟨a2, e2, s2, b2⟩ := h2.run_l' (P := Try.prog) 25 5 i0 Try.underlying25 rfl hi0 hz1 .i64 10 (by omega)
        rw [Nat.mul_one, bv_drop] at s2
        simp only [Int.cast_ofNat_Int] at e2
        have hset := Lib.hid (fun (hs : s.isNone = false) => h.set s2 (by rw [List.length_drop]; omega) (fun ad had => by obtain ⟨ad0, e0, e⟩ := b2 ad had; rw [e]; exact h3 ad0 e0) hs)
        clear hcell s2 b2
        go_wp2_with (go_at_call 40; refine (refFail_any lo hi q _ _ h).mono ?_; rintro e w2 ⟨rfl, hr2, hg2⟩)
        · go_ret2
          have hbad : rdU s = none := by rw [← hp.out, hdrop.out]; exact rd_over (by omega)
          obtain ⟨q1, q2, q3⟩ := rdU_bad hbad
          rw [q1, q2, q3]
          exact ⟨rfl, hr2, hg2⟩
        · go_ret2
          have hbad : rdU s = none := by rw [← hp.out, hdrop.out]; exact rd_more (by omega) (by simp at *; omega) (by omega)
          obtain ⟨q1, q2, q3⟩ := rdU_bad hbad
          rw [q1, q2, q3]
          exact ⟨rfl, hr2, hg2⟩
        · go_ret2
          obtain ⟨q1, q2, q3⟩ := rdU_ok (show rdU s = some (acc + b.toNat % 128 * 2 ^ (7 * 9), l.drop (9 + 1)) by rw [← hp.out, hdrop.out]; exact rd_done (by omega) (by omega) (by simp at *; omega))
          rw [q1, q2, q3]
          exact ⟨ret2_int (by rw [show (2 : Nat) ^ (7 * 9) = 9223372036854775808 from by decide]; omega) rfl, hset.out (by rw [hs.out]; rfl), grownBy_setCell _ _ _ _⟩
      · have hi8 : i ≤ 8 := by omega
        clear h9
        obtain ⟨a2, e2, s2, b2⟩ := h2.run_l' (P := Try.prog) 25 5 i0 Try.underlying25 rfl hi0 hz1 .i64 (i + 1) (by omega)
        rw [Nat.mul_one, bv_drop] at s2
        simp only [Int.natCast_add, Int.cast_ofNat_Int] at e2
        have hset := Lib.hid (fun (hs : s.isNone = false) => h.set s2 (by rw [List.length_drop]; omega) (fun ad had => by obtain ⟨ad0, e0, e⟩ := b2 ad had; rw [e]; exact h3 ad0 e0) hs)
        clear hcell s2 b2
        go_wp2_with (go_at_call 40; refine (refFail_any lo hi q _ _ h).mono ?_; rintro e w2 ⟨rfl, hr2, hg2⟩)
        · go_ret2
          have hbad : rdU s = none := by rw [← hp.out, hdrop.out]; exact rd_more (by omega) (by simp at *; omega) (by omega)
          obtain ⟨q1, q2, q3⟩ := rdU_bad hbad
          rw [q1, q2, q3]
          exact ⟨rfl, hr2, hg2⟩
        · go_ret2
          obtain ⟨q1, q2, q3⟩ := rdU_ok (show rdU s = some (acc + b.toNat % 128 * 2 ^ (7 * i), l.drop (i + 1)) by rw [← hp.out, hdrop.out]; exact rd_done (by omega) (by omega) (by simp at *; omega))
          rw [q1, q2, q3]
          exact ⟨ret2_int (ref_step i acc b.toNat hi9 hacc (by omega) (by omega)) rfl, hset.out (by rw [hs.out]; rfl), grownBy_setCell _ _ _ _⟩
        · go_ret2
          obtain ⟨q1, q2, q3⟩ := rdU_ok (show rdU s = some (acc + b.toNat % 128 * 2 ^ (7 * i), l.drop (i + 1)) by rw [← hp.out, hdrop.out]; exact rd_done (by omega) (by omega) (by simp at *; omega))
          rw [q1, q2, q3]
          exact ⟨ret2_int (ref_step i acc b.toNat hi9 hacc (by omega) (by omega)) rfl, hset.out (by rw [hs.out]; rfl), grownBy_setCell _ _ _ _⟩
        · go_roundw
          case rel => exact ⟨i + 1, acc + b.toNat % 128 * 2 ^ (7 * i), by rw [ref_step i acc b.toNat hi9 hacc (by omega) (by omega)], by go_num, by omega, by omega, (acc_lt i acc b.toNat hi9 hacc (by omega)).1, Lib.hid (by rw [← hp.out, hdrop.out]; exact (rd_next (by omega) (by omega)).symm), trivial⟩
          case measure => simp [intOf]; omega
    · go_wp2_with (go_at_call 40; refine (refFail_any lo hi q _ _ h).mono ?_; rintro e w2 ⟨rfl, hr2, hg2⟩)
      go_ret2
      have hbad : rdU s = none := by
        rw [← hp.out, List.drop_of_length_le (by have := HL.out; omega)]; rfl
      obtain ⟨q1, q2, q3⟩ := rdU_bad hbad
      rw [q1, q2, q3]
      exact ⟨rfl, hr2, hg2⟩

set_option maxRecDepth 100000 in
set_option maxHeartbeats 800000 in
theorem refBytes_any (lo hi q : Nat) (s : Option (List UInt8)) (w : World) (h : Rdr w 64 lo hi q s) :
    Calls Try.prog 37 #[.pointer (some ⟨q, 0, none⟩)] w fun e w' => ∃ a' n' c', e = .returned (.tuple #[.slice a' n' c', .int .i64 (bE s)]) ∧ w'.ownsRow w.heap.size 5 1 (.slice a' n' c') n' (bv (bV s)) ∧ Rdr w' 64 lo hi q (bS s) ∧ w.grownBy w' (some q) := by
  rcases hu : rdU s with _ | ⟨v, r⟩
  · obtain ⟨q1, q2, q3⟩ := rdU_bad hu
    obtain ⟨r1, r2, r3⟩ := b_bad (s := s) (by rw [bR, hu])
    have H3 := Lib.hid q3
    have R := Lib.hid (And.intro r1 (And.intro r2 r3))
    clear hu q3 r1 r2 r3
    go_enter Try.func37, Try.ntmps37
    go_wp2_with (first | (go_at_call 35; refine (refUint_any lo hi q s _ h).mono ?_; rintro e w1 ⟨rfl, hr, hg⟩) | (go_at_call 40; refine (refFail_any lo hi q _ _ hr).mono ?_; rintro e w2 ⟨rfl, hr2, hg2⟩))
    go_ret2
    rw [R.out.1, R.out.2.1, R.out.2.2, ← H3.out]
    exact ⟨none, 0, 0, rfl, World.ownsRow_nil _ _ _ _, hr, hg⟩
  · obtain ⟨q1, q2, q3⟩ := rdU_ok hu
    have hv := rdU_lt hu
    have H3 := Lib.hid q3
    clear q3
    by_cases hl : v ≤ r.length
    · obtain ⟨r1, r2, r3⟩ := b_ok (s := s) (x := r.take v) (r := r.drop v) (by rw [bR, hu]; exact if_pos hl)
      have R := Lib.hid (And.intro r1 (And.intro r2 r3))
      clear hu r1 r2 r3
      obtain ⟨i0, hi0, hz0, hz1, hz2⟩ := info_parts info_u8
      go_enter Try.func37, Try.ntmps37
      go_wp2_with (first | (go_at_call 35; refine (refUint_any lo hi q s _ h).mono ?_; rintro e w1 ⟨rfl, hr, hg⟩; refine RowKit.Hid.out ?_))
      rw [H3.out] at hr
      obtain ⟨a, n, c, h1, h2, h3⟩ := hr.ex
      have hlen := h2.len
      have hshort := hr.short
      rw [bv_length, Nat.mul_one] at hlen
      simp only [Option.getD_some] at h2 hlen hshort
      have hvn : v ≤ n := by omega
      have hn : n ≤ 1000000 := by omega
      have HL := Lib.hid hlen
      clear hlen
      obtain ⟨a1, e1, s1⟩ := h2.run_h' (P := Try.prog) 25 5 i0 Try.underlying25 rfl hi0 hz1 .u64 v hvn
      obtain ⟨a2, e2, s2, b2⟩ := h2.run_l' (P := Try.prog) 25 5 i0 Try.underlying25 rfl hi0 hz1 .u64 v hvn
      rw [Nat.mul_one, bv_take] at s1
      rw [Nat.mul_one, bv_drop] at s2
      obtain ⟨c0, c1, fz⟩ := pair_cells h1
      have f0 := fz 0
      have hq : q < w1.heap.size := by have := hr.hi_le; have := hr.lt_hi; omega
      have C0 := Lib.hid c0
      clear fz c1 h1
      refine Lib.hid ?_
      go_wp2_with (at_builtin; refine wpList_appendB _ rfl _ _ rfl w1.heap.size _ 0 [] rfl (owns_empty _ _ _ _ (Nat.le_refl _)) _ v c (r.take v) rfl (s1.below ((Below.refl _ _).alloc (Nat.le_refl _) _)) ?g1 ?g2 ?g3)
      case g1 => omega
      case g2 => simp
      case g3 =>
        intro a3 c3 w3 hown3 hg3
        have hb3 : Below w1.heap.size w1 w3 := ((Below.refl _ _).alloc (Nat.le_refl _) _).grown hg3 (by simp) (by simp [Value.ownBlock])
        have c03 := below_cell hb3 hq C0.out
        have f03 : w3.frozen? ⟨q, 0, none⟩ = false := (hb3.frozen (p := ⟨q, 0, none⟩) hq).trans f0
        have hr3 := hr.below hb3 hr.hi_le
        have hset := Lib.hid (hr3.set (s2.below hb3) (by rw [List.length_drop]; omega) (fun ad had => by obtain ⟨ad0, e0, e⟩ := b2 ad had; rw [e]; exact h3 ad0 e0) rfl)
        have hsz := hg.size
        clear hg3 c0 f0 s1 s2 b2 hr3
        go_wp2
        go_ret2
        rw [R.out.1, R.out.2.1, R.out.2.2]
        refine ⟨a3, v, c3, rfl, ?_, hset.out, grownBy_trans hg (grownBy_trans (grownBy_below hb3) (grownBy_setCell _ _ _ _))⟩
        exact (ownsRow_base hown3 hsz).kept (grownBy_setCell _ _ _ _) (by
          by_cases ho : (Value.slice a3 v c3).ownBlock = none
          · exact .inl ho
          · refine .inr fun e => ?_
            have := (hown3.lt q e).1
            omega)
    · obtain ⟨r1, r2, r3⟩ := b_bad (s := s) (by rw [bR, hu]; exact if_neg hl)
      have R := Lib.hid (And.intro r1 (And.intro r2 r3))
      clear hu r1 r2 r3
      go_enter Try.func37, Try.ntmps37
      go_wp2_with (first | (go_at_call 35; refine (refUint_any lo hi q s _ h).mono ?_; rintro e w1 ⟨rfl, hr, hg⟩; refine RowKit.Hid.out ?_))
      rw [H3.out] at hr
      obtain ⟨a, n, c, h1, h2, h3⟩ := hr.ex
      have hlen := h2.len
      have hshort := hr.short
      rw [bv_length, Nat.mul_one] at hlen
      simp only [Option.getD_some] at hlen hshort
      have hvn : n < v := by omega
      have hn : n ≤ 1000000 := by omega
      obtain ⟨c0, c1, fz⟩ := pair_cells h1
      clear fz c1 h1 hlen h2 h3
      refine Lib.hid ?_
      go_wp2_with (first | (go_at_call 40; refine (refFail_any lo hi q _ _ hr).mono ?_; rintro e w2 ⟨rfl, hr2, hg2⟩))
      go_ret2
      rw [R.out.1, R.out.2.1, R.out.2.2]
      exact ⟨none, 0, 0, rfl, World.ownsRow_nil _ _ _ _, hr2, grownBy_trans hg hg2⟩

end Go.Proofs.Ytjpnhphnfbhpbaa
