/- Elections: election.sides. (Printed by el5.py.) -/
import Derived.Test.YtgpfjinkmagelaaElD
set_option linter.unusedVariables false
set_option linter.unusedSimpArgs false
namespace Go.Proofs.Ytgpfjinkmagelaa
open Go Go.RowKit Go.Lib

theorem cell_alloc {w : World} {b o : Nat} {v : Value} {ob : Obj} (hc : w.cell? ⟨b, o, none⟩ = some v) : (w.alloc ob).cell? ⟨b, o, none⟩ = some v :=
  below_cell ((Below.refl _ _).alloc (Nat.le_refl _) _) (World.block_lt_of_cell? w _ hc) hc
/-- A box with a number. -/
def Box (w : World) (g j : Nat) : Prop := w.ownsRow 0 3 1 (.slice (some ⟨g, 0, none⟩) 1 1) 1 [.int .i64 (j : Int)]
theorem Box.cell {w : World} {g j : Nat} (h : Box w g j) : w.cell? ⟨g, 0, none⟩ = some (.int .i64 (j : Int)) := (World.ownsRow.cellAt h 0 (by decide)).trans rfl
theorem Box.kept {w w' : World} {g j : Nat} {row : Option Nat} (h : Box w g j) (hg : w.grownBy w' row) (hne : some g ≠ row) : Box w' g j := World.ownsRow.kept h hg (.inr hne)
theorem Box.below {w w' : World} {g j : Nat} (h : Box w g j) (hb : Below w.heap.size w w') : Box w' g j := owns_belowI h hb
theorem Box.side {w : World} {g j base n es : Nat} {e : TypeId} {v : Value} {xs : List Value} (h : Box w g j) (h' : w.ownsRow base e es v n xs) (hne : 3 ≠ e) : some g ≠ v.ownBlock := by
  rcases rows_apartI h h' hne with h1 | h1
  · simp [Value.ownBlock] at h1
  · exact h1
theorem Box.inner {w : World} {g j base n c : Nat} {a : Option Addr} {l : List Nat} (h : Box w g j) (h' : w.ownsRow base 3 1 (.slice a n c) n (ic l)) (hnil : l = [] → a = none) (hj : j ∉ l) : some g ≠ (Value.slice a n c).ownBlock := by
  cases l with
  | nil => rw [hnil rfl]; simp [Value.ownBlock]
  | cons y ys =>
    have := rows_apart_head h h' (x := .int .i64 (j : Int)) (y := .int .i64 (y : Int)) rfl rfl (by
      intro hxy
      simp at hxy hj
      omega)
    exact this

set_option maxRecDepth 100000 in
set_option maxHeartbeats 6400000 in
theorem sides_any (xs : List LL) (a : Option Addr) (n c : Nat) (cand : List Nat) (ac : Option Addr) (nc cc : Nat) (w : World) (hX : Lbs w a n c xs) (hC : Sl w 1 ac nc cc (ic cand)) (hok : ∀ i ∈ cand, i < xs.length) (hnd : cand.Nodup)
    (hshort : ∀ x ∈ xs, x.l.dead.length ≤ 1000000) (hn6 : n ≤ 1000) (hnc : nc ≤ 500) :
    Calls Try.prog 31 #[.slice a n c, .slice ac nc cc] w fun e w' => ∃ a1 n1 c1, e = .returned (.slice a1 n1 c1) ∧ Gis w' a1 n1 c1 (sidesL xs cand) ∧ GsOk xs cand (sidesL xs cand) ∧ Below w.heap.size w w' := by
  have hlen := hX.len
  have hcapL := hX.sl.cap
  have hcapC := hC.cap
  have hncl : nc = cand.length := by have := hC.len; rw [ic_length] at this; omega
  obtain ⟨w0, hw0⟩ : ∃ w0, w0 = w.alloc (.cells #[.slice a n c] 22) := ⟨_, rfl⟩
  have hb0 : Below w.heap.size w w0 := by rw [hw0]; exact (Below.refl _ _).alloc (Nat.le_refl _) _
  have hs0 : w0.heap.size = w.heap.size + 1 := by rw [hw0]; simp
  have HX := Lib.hid (hX.below hb0)
  have HC := Lib.hid (hC.below hb0)
  have HBL0 : Hid (w0.cell? ⟨w.heap.size, 0, none⟩ = some (.slice a n c)) := by rw [hw0]; exact Lib.hid (cell_new1 _ _ _)
  have HB0 := Lib.hid hb0
  have HOK := Lib.hid hok
  have HND := Lib.hid hnd
  have HSH := Lib.hid hshort
  have HW0 := Lib.hid hw0
  have HLX := Lib.hid hlen
  have HLC := Lib.hid hncl
  clear hX hC hok hnd hshort hw0 hb0 hlen hncl
  have hmm := @run_makeMap Try.prog
  go_enter Try.func31, Try.ntmps31
  go_wp2
  go_loopw [5, 15] (fun mv iv wr => ∃ i : Nat, mv = .int .u64 (newestL xs (cand.take i)) ∧ iv = .int .i64 (i : Int) ∧ i ≤ nc ∧ Hid (Below w0.heap.size w0 wr)) (fun _ iv _ => nc - (intOf iv).toNat)
  case atStart => exact ⟨0, rfl, rfl, by omega, by rw [HW0.out]; exact Lib.hid (Below.refl _ _)⟩
  case round =>
    obtain ⟨i, rfl, rfl, hin, HBW⟩ := hrel
    by_cases hi : i < nc
    · have hiI : (i : Int) < nc := by omega
      have hi0 : (0 : Int) ≤ (i : Int) := by omega
      have hik : i < cand.length := by have := HLC.out; omega
      obtain ⟨bC, oC, haC, hcell⟩ := (HC.out.below HBW.out).at (k := i) (by rw [ic_length]; exact hik)
      have hc1 := hcell i (by rw [ic_length]; exact hik)
      simp only [ic, List.getElem_map] at hc1
      have hnext := newestL_take (xs := xs) hik
      have hjl := HOK.out _ (List.getElem_mem hik)
      obtain ⟨j, hj⟩ : ∃ j, j = cand[i] := ⟨_, rfl⟩
      rw [← hj] at hc1 hnext hjl
      obtain ⟨bL, oL, haL, hbL, r0⟩ := (HX.out.below HBW.out).at hjl
      have hc2 : wr.cell? ⟨bL, oL + j * 19 + 2, none⟩ = some (.int .u64 xs[j].l.gen) := r0 2 _ rfl
      rw [← lab_lt hjl] at hc2
      have hc3 := below_cell HBW.out (by omega) HBL0.out
      have hjI : (j : Int) < n := by have := HLX.out; omega
      have hj0 : (0 : Int) ≤ (j : Int) := by omega
      obtain ⟨y, hy⟩ : ∃ y, y = (lab xs j).gen := ⟨_, rfl⟩
      rw [← hy] at hc2 hnext
      obtain ⟨x, hx⟩ : ∃ x, x = newestL xs (cand.take i) := ⟨_, rfl⟩
      rw [← hx] at hnext ⊢
      have HN := Lib.hid hnext
      subst haC haL
      clear hj hx hy hnext hcell r0 hjl
      go_wp2
      go_roundw
      case rel => exact ⟨i + 1, by rw [HN.out]; congr 1; split <;> omega, by go_num, by omega, HBW⟩
      case measure => simp [intOf]; omega
    · have hiI : ¬ (i : Int) < nc := by omega
      obtain rfl : nc = i := by omega
      rw [List.take_of_length_le (by have := HLC.out; omega)]
      obtain ⟨M, hM⟩ : ∃ M, M = newestL xs cand := ⟨_, rfl⟩
      rw [← hM]
      have HM := Lib.hid hM
      clear hM
      rename World => w1
      have hs1 := HBW.out.size
      obtain ⟨m, hm⟩ : ∃ m, m = w1.heap.size := ⟨_, rfl⟩
      have HMM := Lib.hid hm
      have HB1 := HBW
      clear hm hin hiI HBW
      go_wp2
      rw [← HMM.out]
      go_loopw [9, 30] (fun v iv wr => ∃ (i : Nat) (a1 : Option Addr) (n1 c1 : Nat) (gs : List (List Nat)), iv = .int .i64 (i : Int) ∧ i ≤ nc ∧ v = .slice a1 n1 c1 ∧ n1 ≤ i ∧ Hid (gs = sidesOf xs (topL xs M (cand.take i))) ∧ Hid (GsOk xs (cand.take i) gs) ∧ Hid (∀ g ∈ gs, g.length ≤ i) ∧ Hid (GatI wr w0.heap.size (.slice a1 n1 c1) gs) ∧ Hid (Num wr m i) ∧ Hid (Below w0.heap.size w0 wr)) (fun _ iv _ => nc - (intOf iv).toNat)
      case atStart => exact ⟨0, none, 0, 0, [], rfl, by omega, rfl, by omega, Lib.hid rfl, Lib.hid (GsOk.nil _ _), Lib.hid (by simp), Lib.hid (GatI.nil _ _), by rw [HMM.out]; exact Lib.hid (Num.made _), Lib.hid (HB1.out.alloc hs1 _)⟩
      case round =>
      obtain ⟨i, a1, n1, c1, gs, rfl, hin, rfl, hn1i, HGSD, HGSO, HLE, HGAT, HNUM, HBW⟩ := hrel
      by_cases hi : i < nc
      · have hiI : (i : Int) < nc := by omega
        have hi0 : (0 : Int) ≤ (i : Int) := by omega
        have hik : i < cand.length := by have := HLC.out; omega
        obtain ⟨bC, oC, haC, hcell⟩ := (HC.out.below HBW.out).at (k := i) (by rw [ic_length]; exact hik)
        have hc1 := hcell i (by rw [ic_length]; exact hik)
        simp only [ic, List.getElem_map] at hc1
        have hjl := HOK.out _ (List.getElem_mem hik)
        have htk := List.take_succ_eq_append_getElem hik
        have htop := topL_take (xs := xs) (m := M) hik
        have hjn : cand[i] ∉ cand.take i := fun h => by
          obtain ⟨q, hq, hqe⟩ := List.getElem_of_mem h
          rw [List.getElem_take] at hqe
          rw [List.length_take] at hq
          exact (List.pairwise_iff_getElem.1 HND.out) q i (by omega) hik (by omega) hqe
        obtain ⟨j, hj⟩ : ∃ j, j = cand[i] := ⟨_, rfl⟩
        rw [← hj] at hc1 hjl htk htop hjn
        have HXR := Lib.hid (HX.out.below HBW.out)
        obtain ⟨bL, oL, haL, hbLr, r0⟩ := HXR.out.at hjl
        have hc2 : wr.cell? ⟨bL, oL + j * 19 + 2, none⟩ = some (.int .u64 xs[j].l.gen) := r0 2 _ rfl
        rw [← lab_lt hjl] at hc2
        have HBL := Lib.hid (below_cell HBW.out (by omega) HBL0.out)
        have hBLr : w.heap.size < wr.heap.size := by have := HBW.out.size; omega
        have hjI : (j : Int) < n := by have := HLX.out; omega
        have hj0 : (0 : Int) ≤ (j : Int) := by omega
        have hj63 : j < 9223372036854775808 := by omega
        have hmB : w0.heap.size ≤ m := by rw [HMM.out]; exact hs1
        have hmg : m < wr.heap.size := HNUM.out.lt
        have HN1 := Lib.hid HGAT.out.len
        have hGR : ∀ q ∈ gs, GrOk xs q := fun q hq => ⟨(HGSO.out.mem q hq).1, fun x hx => HOK.out x (List.mem_of_mem_take ((HGSO.out.mem q hq).2 x hx))⟩
        have HGR := Lib.hid hGR
        have hnj : ∀ q ∈ gs, j ∉ q := fun q hq hx => hjn ((HGSO.out.mem q hq).2 j hx)
        have HNJ := Lib.hid hnj
        obtain ⟨y, hy⟩ : ∃ y, y = (lab xs j).gen := ⟨_, rfl⟩
        rw [← hy] at hc2 htop
        have HGEN := Lib.hid hc2
        have HCC := Lib.hid hc1
        have HTK := Lib.hid htk
        have HTOP := Lib.hid htop
        have HJN := Lib.hid hjn
        subst haC haL
        clear hj hy hcell r0 hc1 hc2 htk htop hjn hGR hnj
        refine wp_seq_k (fun KA hKA => ?_)
        refine Lin.begin ?_
        refine Lin.take 31 (v := .bool true) rfl rfl (by have h1 := hiI; go_simp <;> with_reducible rfl) (by simp only [Act.put, List.setIfInBounds_toArray, List.set_cons_zero, List.set_cons_succ] <;> rfl) ?_
        refine Lin.done (hKA _ _ ?_)
        refine wp_seq_k (fun KB hKB => ?_)
        refine wp_cond_true rfl ?_
        refine wp_skip ?_
        refine hKB _ _ ?_
        refine wp_seq_k (fun KC hKC => ?_)
        refine wp_block ?_
        refine wp_seq_k (fun KD hKD => ?_)
        refine Lin.begin ?_
        refine Lin.take 32 rfl rfl (by have h1 := hiI; have h2 := hi0; have h3 := hcapC; go_simp <;> with_reducible rfl) (by simp only [Act.put, List.setIfInBounds_toArray, List.set_cons_zero, List.set_cons_succ] <;> rfl) ?_
        refine Lin.take 33 rfl rfl (by have hc := HCC.out; go_simp <;> with_reducible rfl) (by simp only [Act.put, List.setIfInBounds_toArray, List.set_cons_zero, List.set_cons_succ] <;> rfl) ?_
        refine Lin.takeW 11 rfl rfl (by go_simp; exact ⟨rfl, rfl⟩) (by simp only [Act.put, List.setIfInBounds_toArray, List.set_cons_zero, List.set_cons_succ] <;> rfl) ?_
        intro z1 hz1
        obtain ⟨g, hg⟩ : ∃ g, g = wr.heap.size := ⟨_, rfl⟩
        rw [← hg]
        have hc1 : z1.cell? ⟨g, 0, none⟩ = some (.int .i64 0) := by rw [hz1, hg]; exact cell_new1 _ _ _
        have hf1 : z1.frozen? ⟨g, 0, none⟩ = false := by rw [hz1, hg]; exact frozen_of_row _ _ _ _ _ (heap_alloc_new _ _)
        have hb1 : Below wr.heap.size wr z1 := by rw [hz1]; exact (Below.refl _ _).alloc (Nat.le_refl _) _
        have hsz1 : z1.heap.size = g + 1 := by rw [hz1, hg]; simp
        have HX1 : Hid (z1.ownsRow 0 3 1 (.slice (some ⟨g, 0, none⟩) 1 1) 1 [.int .i64 0]) := by rw [hz1, hg]; exact Lib.hid (World.ownsRow_lit (base := 0) (e := 3) (size := 1) wr #[.int .i64 0] 1 (Nat.zero_le _) (by decide) rfl)
        have HC1 := Lib.hid hc1
        have HF1 := Lib.hid hf1
        have HB1 := Lib.hid hb1
        have HG := Lib.hid hg
        clear hz1 hc1 hf1 hb1 hg
        refine Lin.store (w' := z1.setCell ⟨g, 0, none⟩ (.int .i64 (j : Int))) rfl (by have hc := HC1.out; have hf := HF1.out; go_simp <;> (first | exact ⟨rfl, rfl⟩ | rfl)) (by simp only [Act.put] <;> rfl) ?_
        intro z2 hz2
        have HC2 : Hid (Box z2 g j) := by rw [hz2]; exact Lib.hid (HX1.out.stored 0 (.int .i64 (j : Int))).1
        have HB2 : Hid (Below wr.heap.size wr z2) := by rw [hz2]; exact Lib.hid (HB1.out.setCell (p := ⟨g, 0, none⟩) (by rw [HG.out]; exact Nat.le_refl _) _)
        have hsz2 : z2.heap.size = g + 1 := by rw [hz2]; simpa using hsz1
        clear hz2 HC1 HF1 HB1 HX1 hsz1
        refine Lin.done (hKD _ _ ?_)
        refine wp_seq_k (fun KE hKE => ?_)
        refine wp_seq_k (fun KF hKF => ?_)
        refine Lin.begin ?_
        refine Lin.take 34 rfl rfl (by have hc := below_cell HB2.out hBLr HBL.out; go_simp <;> with_reducible rfl) (by simp only [Act.put, List.setIfInBounds_toArray, List.set_cons_zero, List.set_cons_succ] <;> rfl) ?_
        refine Lin.take 35 rfl rfl (by have hc := HC2.out.cell; go_simp <;> with_reducible rfl) (by simp only [Act.put, List.setIfInBounds_toArray, List.set_cons_zero, List.set_cons_succ] <;> rfl) ?_
        refine Lin.take 36 (v := .pointer (some ⟨bL, oL + j * 19, none⟩)) rfl rfl (by have h1 := hjI; have h2 := hj0; have h3 := hcapL; go_simp <;> with_reducible rfl) (by simp only [Act.put, List.setIfInBounds_toArray, List.set_cons_zero, List.set_cons_succ] <;> rfl) ?_
        refine Lin.take 37 rfl rfl (by go_simp <;> with_reducible rfl) (by simp only [Act.put, List.setIfInBounds_toArray, List.set_cons_zero, List.set_cons_succ] <;> rfl) ?_
        refine Lin.take 38 rfl rfl (by have hc := below_cell HB2.out hbLr HGEN.out; go_simp <;> with_reducible rfl) (by simp only [Act.put, List.setIfInBounds_toArray, List.set_cons_zero, List.set_cons_succ] <;> rfl) ?_
        refine Lin.take 39 rfl rfl (by go_simp <;> with_reducible rfl) (by simp only [Act.put, List.setIfInBounds_toArray, List.set_cons_zero, List.set_cons_succ] <;> rfl) ?_
        refine Lin.bool 40 rfl rfl (by go_simp <;> with_reducible rfl) ?_
        intro B hB aa ha; simp only [Act.put, List.setIfInBounds_toArray, List.set_cons_zero, List.set_cons_succ] at ha; subst ha
        refine Lin.done (hKF _ _ ?_)
        clear hKA hKB hKD hKF KA KB KD KF
        by_cases hyM : y = M
        · have hBf : B = false := by rw [hB]; simp [hyM]
          subst hBf
          refine wp_cond_false rfl ?_
          refine wp_skip ?_
          refine hKE _ _ ?_
          clear hKE KE hB
          rw [if_pos hyM] at HTOP
          refine wp_seq_k (fun KG hKG => ?_)
          refine Lin.begin ?_
          refine Lin.take 41 rfl rfl (by go_simp <;> with_reducible rfl) (by simp only [Act.put, List.setIfInBounds_toArray, List.set_cons_zero, List.set_cons_succ] <;> rfl) ?_
          refine Lin.take 42 rfl rfl (by go_simp <;> with_reducible rfl) (by simp only [Act.put, List.setIfInBounds_toArray, List.set_cons_zero, List.set_cons_succ] <;> rfl) ?_
          refine Lin.enterX (fun r : Int => .int .i64 r) 43 rfl rfl (by go_simp <;> (first | exact ⟨rfl, rfl⟩ | rfl)) (indexFunc_any xs _ n c gs a1 n1 c1 w.heap.size g j z2 (HXR.out.below HB2.out) (HGAT.out.gis.below HB2.out) hjl (fun q hq => HGR.out q hq) HSH.out hn6 (by omega) (below_cell HB2.out hBLr HBL.out) HC2.out.cell) ?_
          rintro r z3 ⟨hr, hb3⟩ aa ha; simp only [Act.put, List.setIfInBounds_toArray, List.set_cons_zero, List.set_cons_succ] at ha; subst ha
          have HB3 := Lib.hid (HB2.out.trans (hb3.mono HB2.out.size))
          have hz23 : z2.heap.size ≤ z3.heap.size := hb3.size
          have HC3 := Lib.hid (HC2.out.below hb3)
          clear hb3
          refine Lin.take 12 rfl rfl (by go_simp <;> with_reducible rfl) (by simp only [Act.put, List.setIfInBounds_toArray, List.set_cons_zero, List.set_cons_succ] <;> rfl) ?_
          refine Lin.done (hKG _ _ ?_)
          refine wp_seq_k (fun KH hKH => ?_)
          refine wp_seq_k (fun KI hKI => ?_)
          have HNUM3 := Lib.hid (HNUM.out.kept (row := none) (grownBy_below HB3.out) (by simp))
          rcases hr with ⟨rfl, hno⟩ | ⟨k, rfl, hkl, hmt, hfst⟩
          · have HNO := Lib.hid hno
            clear hno
            refine Lin.begin ?_
            refine Lin.take 44 rfl rfl (by go_simp <;> with_reducible rfl) (by simp only [Act.put, List.setIfInBounds_toArray, List.set_cons_zero, List.set_cons_succ] <;> rfl) ?_
            refine Lin.take 45 (v := .bool true) rfl rfl (by go_simp <;> with_reducible rfl) (by simp only [Act.put, List.setIfInBounds_toArray, List.set_cons_zero, List.set_cons_succ] <;> rfl) ?_
            refine Lin.done (hKI _ _ ?_)
            refine wp_cond_true rfl ?_
            refine wp_seq_k (fun KJ hKJ => ?_)
            refine Lin.begin ?_
            refine Lin.take 46 rfl rfl (by go_simp <;> with_reducible rfl) (by simp only [Act.put, List.setIfInBounds_toArray, List.set_cons_zero, List.set_cons_succ] <;> rfl) ?_
            refine Lin.take 47 rfl rfl (by go_simp <;> with_reducible rfl) (by simp only [Act.put, List.setIfInBounds_toArray, List.set_cons_zero, List.set_cons_succ] <;> rfl) ?_
            refine Lin.take 12 rfl rfl (by go_simp <;> with_reducible rfl) (by simp only [Act.put, List.setIfInBounds_toArray, List.set_cons_zero, List.set_cons_succ] <;> rfl) ?_
            refine Lin.done (hKJ _ _ ?_)
            refine Lin.begin ?_
            refine Lin.take 48 rfl rfl (by go_simp <;> with_reducible rfl) (by simp only [Act.put, List.setIfInBounds_toArray, List.set_cons_zero, List.set_cons_succ] <;> rfl) ?_
            refine Lin.takeW 49 rfl rfl (by go_simp; exact ⟨rfl, rfl⟩) (by simp only [Act.put, List.setIfInBounds_toArray, List.set_cons_zero, List.set_cons_succ] <;> rfl) ?_
            intro z4 hz4
            have HA4 : Hid (Sl z4 1 (some ⟨z3.heap.size, 0, none⟩) 1 1 [.slice none 0 0]) := by rw [hz4]; exact Lib.hid (Sl.single z3 _ _ rfl)
            obtain ⟨vs0, hv1, hv2⟩ := (HGAT.out.below HB3.out).ex
            have hv4 : z4.ownsRow w0.heap.size 56 1 (.slice a1 n1 c1) n1 vs0 := by have h9 := hv1.alloc (.cells #[.slice none 0 0] 56); rw [← HN1.out] at h9; rw [hz4]; exact h9
            have HB4 : Hid (Below wr.heap.size wr z4) := by rw [hz4]; exact Lib.hid (HB3.out.alloc HB3.out.size _)
            have hz34 : z4.heap.size = z3.heap.size + 1 := by rw [hz4]; simp
            have HC4 : Hid (Box z4 g j) := by rw [hz4]; exact Lib.hid (World.ownsRow.alloc HC3.out _)
            refine wpList_appendT z4 56 (.slice none 0 0) 24 (by kernel_rfl) rfl (by decide) rfl (.tmp 48) (.tmp 49) Try.underlying54 rfl w0.heap.size _ n1 vs0 rfl hv4 _ 1 1 _ rfl HA4.out (by omega) (by have h1 := HBW.out.size; have h2 := HB4.out.size; omega) ?_
            intro aT cT zT hownT hgT
            simp only [Act.put, List.setIfInBounds_toArray, List.set_cons_zero, List.set_cons_succ] 
            have hGT : GatI zT w0.heap.size (.slice aT (n1 + 1) cT) (gs ++ [[]]) := by
              rw [hz4] at hgT
              exact GatI.pushNil (tmp := .cells #[.slice none 0 0] 56) hv1 hv2 (by rw [← HN1.out]; exact hownT) hgT
            have HGT := Lib.hid hGT
            have HBT : Hid (Below w0.heap.size w0 zT) := Lib.hid ((HBW.out.trans (HB4.out.mono HBW.out.size)).grown hgT (by have h1 := HBW.out.size; have h2 := HB4.out.size; omega) (fun q hq => (hv4.lt q hq).1))
            have HCT : Hid (Box zT g j) := Lib.hid (HC4.out.kept hgT (HC4.out.side hv4 (by decide)))
            have HNT : Hid (Num zT m i) := Lib.hid ((HNUM.out.kept (row := none) (grownBy_below HB4.out) (by simp)).kept hgT ((HNUM.out.kept (row := none) (grownBy_below HB4.out) (by simp)).apart hv4))
            have hsT := hgT.size
            clear hz4 hv1 hv2 hv4 hownT hgT hGT
            refine Lin.take 9 rfl rfl (by go_simp <;> with_reducible rfl) (by simp only [Act.put, List.setIfInBounds_toArray, List.set_cons_zero, List.set_cons_succ] <;> rfl) ?_
            refine Lin.done (hKH _ _ ?_)
            obtain ⟨kT, hkTe⟩ : ∃ kT, kT = n1 := ⟨_, rfl⟩
            obtain ⟨nT, hnTe⟩ : ∃ nT, nT = n1 + 1 := ⟨_, rfl⟩
            obtain ⟨gT, hgTe⟩ : ∃ gT, gT = gs ++ [[]] := ⟨_, rfl⟩
            rw [← hnTe, ← hgTe] at HGT
            rw [← hnTe, ← hkTe]
            have hnT9 : nT ≤ i + 1 := by omega
            have hkT : kT < gT.length := by rw [hgTe, List.length_append]; have := HN1.out; simp; omega
            have hgk : gT[kT] = [] := by
              have : gT[kT]? = some [] := by rw [hgTe, hkTe, HN1.out, List.getElem?_append_right (Nat.le_refl _), Nat.sub_self]; rfl
              rw [List.getElem?_eq_getElem hkT] at this
              exact Option.some.inj this
            have HHT : Hid (∀ i g, i ≠ kT → gT[i]? = some g → g ≠ [] → gT[kT] ≠ [] → g.head? ≠ gT[kT].head?) := Lib.hid (fun _ _ _ _ _ h => (h hgk).elim)
            have HLT : Hid (∀ g ∈ gT, g.length ≤ i) := by
              rw [hgTe]
              refine Lib.hid (fun q hq => ?_)
              rcases List.mem_append.1 hq with hq | hq
              · exact HLE.out q hq
              · obtain rfl := List.mem_singleton.1 hq; simp
            have HJT : Hid (j ∉ gT[kT]) := Lib.hid (by rw [hgk]; simp)
            have hset : gT.set kT (gT[kT] ++ [j]) = gs ++ [[j]] := by
              rw [hgk, hgTe, hkTe, HN1.out, List.set_append_right _ _ (Nat.le_refl _), Nat.sub_self]
              rfl
            have HRES : Hid (gT.set kT (gT[kT] ++ [j]) = sidesOf xs (topL xs M (cand.take (i + 1)))) := Lib.hid (by rw [hset, HTOP.out, sidesOf_add, ← HGSD.out, addSide_none HNO.out])
            have HGS : Hid (GsOk xs (cand.take (i + 1)) (gT.set kT (gT[kT] ++ [j]))) := Lib.hid (by rw [hset, HTK.out]; exact HGSO.out.pushNew HJN.out)
            clear hkTe hnTe hgTe hgk hset HB4 HA4 HC4 HB3 HC3 HNUM3
            have hk9 : kT < 1000 := by have := HGT.out.len; omega
            refine wp_seq_k (fun KT hKT => ?_)
            refine Lin.begin ?_
            refine Lin.take 51 rfl rfl (by go_simp <;> with_reducible rfl) (by simp only [Act.put, List.setIfInBounds_toArray, List.set_cons_zero, List.set_cons_succ] <;> rfl) ?_
            refine Lin.take 52 rfl rfl (by have hc := HCT.out.cell; go_simp <;> with_reducible rfl) (by simp only [Act.put, List.setIfInBounds_toArray, List.set_cons_zero, List.set_cons_succ] <;> rfl) ?_
            refine Lin.take 53 rfl rfl (by go_simp <;> with_reducible rfl) (by simp only [Act.put, List.setIfInBounds_toArray, List.set_cons_zero, List.set_cons_succ] <;> rfl) ?_
            refine wpList_numPut zT rfl _ _ _ rfl m i j kT rfl HNT.out (by omega) rfl rfl (by omega) (by omega) ?_
            intro zU hat hgr
            simp only [Act.put]
            have HGU := Lib.hid (HGT.out.keptM HNT.out hgr)
            have hcU := HCT.out.kept hgr (by simp only [ne_eq, Option.some.injEq]; have := HG.out; omega)
            have HBU := Lib.hid (HBT.out.grown hgr HBT.out.size (fun q hq => by obtain rfl := Option.some.inj hq; exact hmB))
            have hsU := hgr.size
            clear hgr
            refine Lin.done (hKT _ _ ?_)
            obtain ⟨A, a3, n3, c3, vs, rfl, hA0, hA1, hO, hv3, hc9, hI, hInil⟩ := HGU.out.pick hkT
            have HN3 : Hid (n3 ≤ 500) := by
              have h1 := hI.1
              have h2 := HLT.out _ (List.getElem_mem hkT)
              rw [ic_length] at h1
              exact Lib.hid (by omega)
            have HNIL := Lib.hid hInil
            have HV3 := Lib.hid hv3
            obtain ⟨zD, hzD⟩ : ∃ zD, zD = zU.drew := ⟨_, rfl⟩
            have HSD : Hid (zD.heap.size = zU.heap.size) := by rw [hzD]; exact Lib.hid rfl
            have hSw : Box zD g j ∧ NumAt zD m (i + 1) j kT := by rw [hzD]; exact ⟨hcU, hat⟩
            have hnT := HGU.out.len
            have hOl := hO.1
            have hcapT : nT ≤ cT := by
              rcases hO.2 with ⟨h1, _⟩ | ⟨q, cap, cur, h1, _, _, h2, _⟩
              · simp at h1
              · simp only [Value.slice.injEq] at h1; obtain ⟨-, -, rfl⟩ := h1; exact h2
            have hkI : (kT : Int) < nT := by omega
            have hk0 : (0 : Int) ≤ (kT : Int) := by omega
            have hkN : kT < nT := by omega
            clear hnT hOl
            have hgA := hcU.side hO (by decide)
            simp only [Value.ownBlock, ne_eq, Option.some.injEq] at hgA
            have HO : Hid (zD.ownsRow w0.heap.size 56 1 (.slice (some ⟨A, 0, none⟩) nT cT) nT vs) := by rw [hzD]; exact Lib.hid hO
            have HI : Hid (zD.ownsRow w0.heap.size 3 1 (.slice a3 n3 c3) n3 (ic gT[kT])) := by rw [hzD]; exact Lib.hid hI
            have HC9 : Hid (zD.cell? ⟨A, kT, none⟩ = some (.slice a3 n3 c3)) := by rw [hzD]; exact Lib.hid hc9
            have HGD : Hid (GatI zD w0.heap.size (.slice (some ⟨A, 0, none⟩) nT cT) gT) := by rw [hzD]; exact Lib.hid ⟨HGU.out.ex⟩
            have HBD : Hid (Below w0.heap.size w0 zD) := by rw [hzD]; exact Lib.hid HBU.out.drew
            have HZD := Lib.hid hzD
            clear hzD
            have HHAT := Lib.hid hat
            have HCU := Lib.hid hcU
            clear hO hI hc9 hInil hv3 hat hcU
            refine RestS.begin (fun x => Box x g j ∧ NumAt x m (i + 1) j kT) 15 (by kernel_rfl) (by kernel_rfl) ?_
            rw [← HZD.out]
            refine RestS.take 0 54 rfl (by kernel_rfl) (by kernel_rfl) (by kernel_rfl) (fun _ _ _ h => h) (by rfl) (by rfl) (by intro x hx; go_simp <;> with_reducible rfl) (by simp only [Act.put, List.setIfInBounds_toArray, List.set_cons_zero, List.set_cons_succ] <;> rfl) hSw ?_
            refine RestS.take 1 55 rfl (by kernel_rfl) (by kernel_rfl) (by kernel_rfl) (fun _ _ _ h => h) (by rfl) (by rfl) (by intro x hx; go_simp <;> with_reducible rfl) (by simp only [Act.put, List.setIfInBounds_toArray, List.set_cons_zero, List.set_cons_succ] <;> rfl) hSw ?_
            refine RestS.take 2 56 rfl (by kernel_rfl) (by kernel_rfl) (by kernel_rfl) (fun _ _ _ h => h) (by rfl) (by rfl) (by intro x hx; have hc := hx.1.cell; go_simp <;> with_reducible rfl) (by simp only [Act.put, List.setIfInBounds_toArray, List.set_cons_zero, List.set_cons_succ] <;> rfl) hSw ?_
            refine RestS.take 3 57 (v := .int .i64 (kT : Int)) rfl (by kernel_rfl) (by kernel_rfl) (by kernel_rfl) (fun _ _ _ h => h) (by rfl) (by rfl) (by intro x hx; have hr := hx.2.run hj63; go_simp <;> with_reducible rfl) (by simp only [Act.put, List.setIfInBounds_toArray, List.set_cons_zero, List.set_cons_succ] <;> rfl) hSw ?_
            refine RestS.take 4 58 rfl (by kernel_rfl) (by kernel_rfl) (by kernel_rfl) (fun _ _ _ h => h) (by rfl) (by rfl) (by intro x hx; go_simp <;> with_reducible rfl) (by simp only [Act.put, List.setIfInBounds_toArray, List.set_cons_zero, List.set_cons_succ] <;> rfl) hSw ?_
            refine RestS.take 5 59 rfl (by kernel_rfl) (by kernel_rfl) (by kernel_rfl) (fun _ _ _ h => h) (by rfl) (by rfl) (by intro x hx; go_simp <;> with_reducible rfl) (by simp only [Act.put, List.setIfInBounds_toArray, List.set_cons_zero, List.set_cons_succ] <;> rfl) hSw ?_
            refine RestS.take 6 60 rfl (by kernel_rfl) (by kernel_rfl) (by kernel_rfl) (fun _ _ _ h => h) (by rfl) (by rfl) (by intro x hx; have hc := hx.1.cell; go_simp <;> with_reducible rfl) (by simp only [Act.put, List.setIfInBounds_toArray, List.set_cons_zero, List.set_cons_succ] <;> rfl) hSw ?_
            refine RestS.take 7 61 (v := .int .i64 (kT : Int)) rfl (by kernel_rfl) (by kernel_rfl) (by kernel_rfl) (fun _ _ _ h => h) (by rfl) (by rfl) (by intro x hx; have hr := hx.2.run hj63; go_simp <;> with_reducible rfl) (by simp only [Act.put, List.setIfInBounds_toArray, List.set_cons_zero, List.set_cons_succ] <;> rfl) hSw ?_
            refine RestS.take 8 62 (v := .pointer (some ⟨A, kT, none⟩)) rfl (by kernel_rfl) (by kernel_rfl) (by kernel_rfl) (fun _ _ _ h => h) (by rfl) (by rfl) (by intro x hx; have h1 := hkI; have h2 := hk0; have h3 := hcapT; go_simp <;> (first | with_reducible rfl | simp)) (by simp only [Act.put, List.setIfInBounds_toArray, List.set_cons_zero, List.set_cons_succ] <;> rfl) hSw ?_
            refine RestS.take 10 64 rfl (by kernel_rfl) (by kernel_rfl) (by kernel_rfl) (fun _ _ _ h => h) (by rfl) (by rfl) (by intro x hx; have hc := hx.1.cell; go_simp <;> with_reducible rfl) (by simp only [Act.put, List.setIfInBounds_toArray, List.set_cons_zero, List.set_cons_succ] <;> rfl) hSw ?_
            refine RestS.step2 9 11 rfl rfl (by kernel_rfl) (by rfl) (by rfl) (fun K hK => ?_) (fun K hK => ?_)
            · have hc := HC9.out
              go_simp
              refine hK.out _ _ hSw ?_
              clear hK K
              refine RestS.step 11 rfl (by kernel_rfl) (by rfl) (fun K hK => ?_)
              go_simp
              refine hK.out _ _ ⟨World.ownsRow.alloc hSw.1 _, hSw.2.kept (World.grownBy_alloc _ _ none) (by simp)⟩ ?_
              clear hK K
              obtain ⟨zX, hzX⟩ : ∃ y, y = zD.alloc (.cells #[.int .i64 (j : Int)] 3) := ⟨_, rfl⟩
              rw [← hzX]
              replace hSw : Box zX g j ∧ NumAt zX m (i + 1) j kT := by rw [hzX]; exact ⟨World.ownsRow.alloc hSw.1 _, hSw.2.kept (World.grownBy_alloc _ _ none) (by simp)⟩
              have HC9X : Hid (zX.cell? ⟨A, kT, none⟩ = some (.slice a3 n3 c3)) := by rw [hzX]; exact Lib.hid (cell_alloc (w := zD) HC9.out)
              have HIX : Hid (zX.ownsRow w0.heap.size 3 1 (.slice a3 n3 c3) n3 (ic gT[kT])) := by rw [hzX]; exact Lib.hid (HI.out.alloc _)
              have HOX : Hid (zX.ownsRow w0.heap.size 56 1 (.slice (some ⟨A, 0, none⟩) nT cT) nT vs) := by rw [hzX]; exact Lib.hid (HO.out.alloc _)
              have HSX : Hid (Sl zX 1 (some ⟨zD.heap.size, 0, none⟩) 1 1 [.int .i64 (j : Int)]) := by rw [hzX]; exact Lib.hid (Sl.single zD _ _ rfl)
              have HSZX : Hid (zD.heap.size ≤ zX.heap.size) := by rw [hzX]; exact Lib.hid (by simp)
              have HX2 := Lib.hid hzX
              clear hzX
              refine RestS.step 12 rfl (by kernel_rfl) (by rfl) (fun K hK => ?_)
              obtain ⟨i0, hi0i, hz0, hz1, hz2⟩ := info_parts info_int
              refine wp_append_sl zX _ _ 56 rfl w0.heap.size 3 i0 (.int .i64 0) 1 8 Try.underlying56 hi0i hz0 hz1 hz2 rfl (by decide) (.slice a3 n3 c3) n3 (ic gT[kT]) rfl HIX.out _ 1 1 _ rfl HSX.out (by have := HN3.out; unfold maxLen; omega) (by have := HN3.out; omega) (by have h1 := HBD.out.size; have h2 := HSZX.out; omega) ?_
              intro a4 c4 zY hownY hgY
              clear hi0i hz0 hz1 hz2
              have hgI := hSw.1.inner HIX.out HNIL.out HJT.out
              have hSY : Box zY g j ∧ NumAt zY m (i + 1) j kT := ⟨hSw.1.kept hgY hgI, hSw.2.kept hgY (hSw.2.num.apart HIX.out)⟩
              refine hK.out _ _ hSY ?_
              clear hK K
              simp only [Act.put, List.setIfInBounds_toArray, List.set_cons_zero, List.set_cons_succ]
              have hOY : zY.ownsRow w0.heap.size 56 1 (.slice (some ⟨A, 0, none⟩) nT cT) nT vs := HOX.out.kept hgY (rows_apartI HOX.out HIX.out (by decide))
              have HOY := Lib.hid hOY
              have HYY := Lib.hid hownY
              have HGY := Lib.hid hgY
              have hsY := hgY.size
              replace hSw := hSY
              clear hOY hownY hgY hSY hgI
              refine RestS.take 13 67 (v := .pointer (some ⟨A, kT, none⟩)) rfl (by kernel_rfl) (by kernel_rfl) (by kernel_rfl) (fun _ _ _ h => h) (by rfl) (by rfl) (by intro x hx; have h1 := hkI; have h2 := hk0; have h3 := hcapT; go_simp <;> (first | with_reducible rfl | simp)) (by simp only [Act.put, List.setIfInBounds_toArray, List.set_cons_zero, List.set_cons_succ] <;> rfl) hSw ?_
              refine RestS.step 14 rfl (by kernel_rfl) (by rfl) (fun K hK => ?_)
              have hc : zY.cell? ⟨A, kT, none⟩ = some (.slice a3 n3 c3) := by rw [HOY.out.cellAt kT (by rw [Nat.mul_one]; exact hkN), HV3.out]
              have hf : zY.frozen? ⟨A, kT, none⟩ = false := HOY.out.frozenAt kT
              go_simp
              refine hK.out _ _ ⟨hSw.1.kept (grownBy_setCell zY A kT _) (by simpa using hgA), hSw.2.kept (grownBy_setCell zY A kT _) ?_⟩ ?_
              · have := hSw.2.num.apart HOY.out
                simpa [Value.ownBlock] using this
              clear hK K hc hf
              refine wpAnyH_done (by kernel_rfl) ?_ _
              simp only [Exit.inBlock, Exit.then]
              refine hKC _ _ ?_
              go_wp2
              go_roundw
              case rel =>
                refine ⟨i + 1, some ⟨A, 0, none⟩, nT, cT, gT.set kT (gT[kT] ++ [j]), by go_num, by omega, rfl, by omega, HRES, HGS, Lib.hid ?_, Lib.hid ?_, Lib.hid (hSw.2.num.kept (grownBy_setCell zY A kT _) ?_), Lib.hid ?_⟩
                · intro q hq
                  rcases List.mem_or_eq_of_mem_set hq with hq | rfl
                  · have := HLT.out q hq; omega
                  · have := HLT.out _ (List.getElem_mem hkT); rw [List.length_append]; simpa using this
                · refine GatI.add (w := zD) (tmp := .cells #[.int .i64 (j : Int)] 3) HGD.out hkT HI.out HNIL.out (by rw [← HX2.out]; exact HGY.out) HHT.out rfl HYY.out
                · have := hSw.2.num.apart HOY.out
                  simpa [Value.ownBlock] using this
                · have hbX : Below w0.heap.size w0 zX := by rw [HX2.out]; exact HBD.out.alloc HBD.out.size _
                  exact (hbX.grown HGY.out hbX.size (fun q hq => (HIX.out.lt q hq).1)).setCell (p := ⟨A, kT, none⟩) hA0 _
              case measure => simp [intOf]; omega
            · go_simp
              refine hK.out _ _ ⟨World.ownsRow.alloc hSw.1 _, hSw.2.kept (World.grownBy_alloc _ _ none) (by simp)⟩ ?_
              clear hK K
              obtain ⟨zX, hzX⟩ : ∃ y, y = zD.alloc (.cells #[.int .i64 (j : Int)] 3) := ⟨_, rfl⟩
              rw [← hzX]
              replace hSw : Box zX g j ∧ NumAt zX m (i + 1) j kT := by rw [hzX]; exact ⟨World.ownsRow.alloc hSw.1 _, hSw.2.kept (World.grownBy_alloc _ _ none) (by simp)⟩
              have HC9X : Hid (zX.cell? ⟨A, kT, none⟩ = some (.slice a3 n3 c3)) := by rw [hzX]; exact Lib.hid (cell_alloc (w := zD) HC9.out)
              have HIX : Hid (zX.ownsRow w0.heap.size 3 1 (.slice a3 n3 c3) n3 (ic gT[kT])) := by rw [hzX]; exact Lib.hid (HI.out.alloc _)
              have HOX : Hid (zX.ownsRow w0.heap.size 56 1 (.slice (some ⟨A, 0, none⟩) nT cT) nT vs) := by rw [hzX]; exact Lib.hid (HO.out.alloc _)
              have HSX : Hid (Sl zX 1 (some ⟨zD.heap.size, 0, none⟩) 1 1 [.int .i64 (j : Int)]) := by rw [hzX]; exact Lib.hid (Sl.single zD _ _ rfl)
              have HSZX : Hid (zD.heap.size ≤ zX.heap.size) := by rw [hzX]; exact Lib.hid (by simp)
              have HX2 := Lib.hid hzX
              clear hzX
              refine RestS.step 9 rfl (by kernel_rfl) (by rfl) (fun K hK => ?_)
              have hc := HC9X.out
              go_simp
              refine hK.out _ _ hSw ?_
              clear hK K
              refine RestS.step 12 rfl (by kernel_rfl) (by rfl) (fun K hK => ?_)
              obtain ⟨i0, hi0i, hz0, hz1, hz2⟩ := info_parts info_int
              refine wp_append_sl zX _ _ 56 rfl w0.heap.size 3 i0 (.int .i64 0) 1 8 Try.underlying56 hi0i hz0 hz1 hz2 rfl (by decide) (.slice a3 n3 c3) n3 (ic gT[kT]) rfl HIX.out _ 1 1 _ rfl HSX.out (by have := HN3.out; unfold maxLen; omega) (by have := HN3.out; omega) (by have h1 := HBD.out.size; have h2 := HSZX.out; omega) ?_
              intro a4 c4 zY hownY hgY
              clear hi0i hz0 hz1 hz2
              have hgI := hSw.1.inner HIX.out HNIL.out HJT.out
              have hSY : Box zY g j ∧ NumAt zY m (i + 1) j kT := ⟨hSw.1.kept hgY hgI, hSw.2.kept hgY (hSw.2.num.apart HIX.out)⟩
              refine hK.out _ _ hSY ?_
              clear hK K
              simp only [Act.put, List.setIfInBounds_toArray, List.set_cons_zero, List.set_cons_succ]
              have hOY : zY.ownsRow w0.heap.size 56 1 (.slice (some ⟨A, 0, none⟩) nT cT) nT vs := HOX.out.kept hgY (rows_apartI HOX.out HIX.out (by decide))
              have HOY := Lib.hid hOY
              have HYY := Lib.hid hownY
              have HGY := Lib.hid hgY
              have hsY := hgY.size
              replace hSw := hSY
              clear hOY hownY hgY hSY hgI
              refine RestS.take 13 67 (v := .pointer (some ⟨A, kT, none⟩)) rfl (by kernel_rfl) (by kernel_rfl) (by kernel_rfl) (fun _ _ _ h => h) (by rfl) (by rfl) (by intro x hx; have h1 := hkI; have h2 := hk0; have h3 := hcapT; go_simp <;> (first | with_reducible rfl | simp)) (by simp only [Act.put, List.setIfInBounds_toArray, List.set_cons_zero, List.set_cons_succ] <;> rfl) hSw ?_
              refine RestS.step 14 rfl (by kernel_rfl) (by rfl) (fun K hK => ?_)
              have hc : zY.cell? ⟨A, kT, none⟩ = some (.slice a3 n3 c3) := by rw [HOY.out.cellAt kT (by rw [Nat.mul_one]; exact hkN), HV3.out]
              have hf : zY.frozen? ⟨A, kT, none⟩ = false := HOY.out.frozenAt kT
              go_simp
              refine hK.out _ _ ⟨hSw.1.kept (grownBy_setCell zY A kT _) (by simpa using hgA), hSw.2.kept (grownBy_setCell zY A kT _) ?_⟩ ?_
              · have := hSw.2.num.apart HOY.out
                simpa [Value.ownBlock] using this
              clear hK K hc hf
              refine wpAnyH_done (by kernel_rfl) ?_ _
              simp only [Exit.inBlock, Exit.then]
              refine hKC _ _ ?_
              go_wp2
              go_roundw
              case rel =>
                refine ⟨i + 1, some ⟨A, 0, none⟩, nT, cT, gT.set kT (gT[kT] ++ [j]), by go_num, by omega, rfl, by omega, HRES, HGS, Lib.hid ?_, Lib.hid ?_, Lib.hid (hSw.2.num.kept (grownBy_setCell zY A kT _) ?_), Lib.hid ?_⟩
                · intro q hq
                  rcases List.mem_or_eq_of_mem_set hq with hq | rfl
                  · have := HLT.out q hq; omega
                  · have := HLT.out _ (List.getElem_mem hkT); rw [List.length_append]; simpa using this
                · refine GatI.add (w := zD) (tmp := .cells #[.int .i64 (j : Int)] 3) HGD.out hkT HI.out HNIL.out (by rw [← HX2.out]; exact HGY.out) HHT.out rfl HYY.out
                · have := hSw.2.num.apart HOY.out
                  simpa [Value.ownBlock] using this
                · have hbX : Below w0.heap.size w0 zX := by rw [HX2.out]; exact HBD.out.alloc HBD.out.size _
                  exact (hbX.grown HGY.out hbX.size (fun q hq => (HIX.out.lt q hq).1)).setCell (p := ⟨A, kT, none⟩) hA0 _
              case measure => simp [intOf]; omega
          · have HMT := Lib.hid hmt
            have HFST := Lib.hid hfst
            clear hmt hfst
            refine Lin.begin ?_
            refine Lin.take 44 rfl rfl (by go_simp <;> with_reducible rfl) (by simp only [Act.put, List.setIfInBounds_toArray, List.set_cons_zero, List.set_cons_succ] <;> rfl) ?_
            refine Lin.take 45 (v := .bool false) rfl rfl (by have h0 : ¬ (k : Int) < 0 := (by omega); go_simp <;> with_reducible rfl) (by simp only [Act.put, List.setIfInBounds_toArray, List.set_cons_zero, List.set_cons_succ] <;> rfl) ?_
            refine Lin.done (hKI _ _ ?_)
            refine wp_cond_false rfl ?_
            refine wp_skip ?_
            refine hKH _ _ ?_
            obtain ⟨kT, hkTe⟩ : ∃ kT, kT = k := ⟨_, rfl⟩
            obtain ⟨nT, hnTe⟩ : ∃ nT, nT = n1 := ⟨_, rfl⟩
            obtain ⟨gT, hgTe⟩ : ∃ gT, gT = gs := ⟨_, rfl⟩
            obtain ⟨zT, hzTe⟩ : ∃ zT, zT = z3 := ⟨_, rfl⟩
            obtain ⟨aT, haTe⟩ : ∃ aT, aT = a1 := ⟨_, rfl⟩
            obtain ⟨cT, hcTe⟩ : ∃ cT, cT = c1 := ⟨_, rfl⟩
            subst hkTe hnTe hgTe hzTe haTe hcTe
            have HGT := Lib.hid (HGAT.out.below HB3.out)
            have HBT := Lib.hid (HBW.out.trans (HB3.out.mono HBW.out.size))
            have HCT := HC3
            have HNT := HNUM3
            have hkT := hkl
            have hnT9 : nT ≤ i + 1 := by omega
            have HHT : Hid (∀ i g, i ≠ kT → gT[i]? = some g → g ≠ [] → gT[kT] ≠ [] → g.head? ≠ gT[kT].head?) := Lib.hid (fun i g h1 h2 _ _ => HGSO.out.heads i kT g _ h2 (List.getElem?_eq_getElem hkT) h1)
            have HLT := HLE
            have HJT : Hid (j ∉ gT[kT]) := Lib.hid (HNJ.out _ (List.getElem_mem hkT))
            have HRES : Hid (gT.set kT (gT[kT] ++ [j]) = sidesOf xs (topL xs M (cand.take (i + 1)))) := Lib.hid (by rw [HTOP.out, sidesOf_add, ← HGSD.out, addSide_some hkT HMT.out HFST.out])
            have HGS : Hid (GsOk xs (cand.take (i + 1)) (gT.set kT (gT[kT] ++ [j]))) := Lib.hid (by rw [HTK.out]; exact HGSO.out.pushIn hkT)
            clear HB3 HC3 HNUM3 HMT HFST
            have hk9 : kT < 1000 := by have := HGT.out.len; omega
            refine wp_seq_k (fun KT hKT => ?_)
            refine Lin.begin ?_
            refine Lin.take 51 rfl rfl (by go_simp <;> with_reducible rfl) (by simp only [Act.put, List.setIfInBounds_toArray, List.set_cons_zero, List.set_cons_succ] <;> rfl) ?_
            refine Lin.take 52 rfl rfl (by have hc := HCT.out.cell; go_simp <;> with_reducible rfl) (by simp only [Act.put, List.setIfInBounds_toArray, List.set_cons_zero, List.set_cons_succ] <;> rfl) ?_
            refine Lin.take 53 rfl rfl (by go_simp <;> with_reducible rfl) (by simp only [Act.put, List.setIfInBounds_toArray, List.set_cons_zero, List.set_cons_succ] <;> rfl) ?_
            refine wpList_numPut zT rfl _ _ _ rfl m i j kT rfl HNT.out (by omega) rfl rfl (by omega) (by omega) ?_
            intro zU hat hgr
            simp only [Act.put]
            have HGU := Lib.hid (HGT.out.keptM HNT.out hgr)
            have hcU := HCT.out.kept hgr (by simp only [ne_eq, Option.some.injEq]; have := HG.out; omega)
            have HBU := Lib.hid (HBT.out.grown hgr HBT.out.size (fun q hq => by obtain rfl := Option.some.inj hq; exact hmB))
            have hsU := hgr.size
            clear hgr
            refine Lin.done (hKT _ _ ?_)
            obtain ⟨A, a3, n3, c3, vs, rfl, hA0, hA1, hO, hv3, hc9, hI, hInil⟩ := HGU.out.pick hkT
            have HN3 : Hid (n3 ≤ 500) := by
              have h1 := hI.1
              have h2 := HLT.out _ (List.getElem_mem hkT)
              rw [ic_length] at h1
              exact Lib.hid (by omega)
            have HNIL := Lib.hid hInil
            have HV3 := Lib.hid hv3
            obtain ⟨zD, hzD⟩ : ∃ zD, zD = zU.drew := ⟨_, rfl⟩
            have HSD : Hid (zD.heap.size = zU.heap.size) := by rw [hzD]; exact Lib.hid rfl
            have hSw : Box zD g j ∧ NumAt zD m (i + 1) j kT := by rw [hzD]; exact ⟨hcU, hat⟩
            have hnT := HGU.out.len
            have hOl := hO.1
            have hcapT : nT ≤ cT := by
              rcases hO.2 with ⟨h1, _⟩ | ⟨q, cap, cur, h1, _, _, h2, _⟩
              · simp at h1
              · simp only [Value.slice.injEq] at h1; obtain ⟨-, -, rfl⟩ := h1; exact h2
            have hkI : (kT : Int) < nT := by omega
            have hk0 : (0 : Int) ≤ (kT : Int) := by omega
            have hkN : kT < nT := by omega
            clear hnT hOl
            have hgA := hcU.side hO (by decide)
            simp only [Value.ownBlock, ne_eq, Option.some.injEq] at hgA
            have HO : Hid (zD.ownsRow w0.heap.size 56 1 (.slice (some ⟨A, 0, none⟩) nT cT) nT vs) := by rw [hzD]; exact Lib.hid hO
            have HI : Hid (zD.ownsRow w0.heap.size 3 1 (.slice a3 n3 c3) n3 (ic gT[kT])) := by rw [hzD]; exact Lib.hid hI
            have HC9 : Hid (zD.cell? ⟨A, kT, none⟩ = some (.slice a3 n3 c3)) := by rw [hzD]; exact Lib.hid hc9
            have HGD : Hid (GatI zD w0.heap.size (.slice (some ⟨A, 0, none⟩) nT cT) gT) := by rw [hzD]; exact Lib.hid ⟨HGU.out.ex⟩
            have HBD : Hid (Below w0.heap.size w0 zD) := by rw [hzD]; exact Lib.hid HBU.out.drew
            have HZD := Lib.hid hzD
            clear hzD
            have HHAT := Lib.hid hat
            have HCU := Lib.hid hcU
            clear hO hI hc9 hInil hv3 hat hcU
            refine RestS.begin (fun x => Box x g j ∧ NumAt x m (i + 1) j kT) 15 (by kernel_rfl) (by kernel_rfl) ?_
            rw [← HZD.out]
            refine RestS.take 0 54 rfl (by kernel_rfl) (by kernel_rfl) (by kernel_rfl) (fun _ _ _ h => h) (by rfl) (by rfl) (by intro x hx; go_simp <;> with_reducible rfl) (by simp only [Act.put, List.setIfInBounds_toArray, List.set_cons_zero, List.set_cons_succ] <;> rfl) hSw ?_
            refine RestS.take 1 55 rfl (by kernel_rfl) (by kernel_rfl) (by kernel_rfl) (fun _ _ _ h => h) (by rfl) (by rfl) (by intro x hx; go_simp <;> with_reducible rfl) (by simp only [Act.put, List.setIfInBounds_toArray, List.set_cons_zero, List.set_cons_succ] <;> rfl) hSw ?_
            refine RestS.take 2 56 rfl (by kernel_rfl) (by kernel_rfl) (by kernel_rfl) (fun _ _ _ h => h) (by rfl) (by rfl) (by intro x hx; have hc := hx.1.cell; go_simp <;> with_reducible rfl) (by simp only [Act.put, List.setIfInBounds_toArray, List.set_cons_zero, List.set_cons_succ] <;> rfl) hSw ?_
            refine RestS.take 3 57 (v := .int .i64 (kT : Int)) rfl (by kernel_rfl) (by kernel_rfl) (by kernel_rfl) (fun _ _ _ h => h) (by rfl) (by rfl) (by intro x hx; have hr := hx.2.run hj63; go_simp <;> with_reducible rfl) (by simp only [Act.put, List.setIfInBounds_toArray, List.set_cons_zero, List.set_cons_succ] <;> rfl) hSw ?_
            refine RestS.take 4 58 rfl (by kernel_rfl) (by kernel_rfl) (by kernel_rfl) (fun _ _ _ h => h) (by rfl) (by rfl) (by intro x hx; go_simp <;> with_reducible rfl) (by simp only [Act.put, List.setIfInBounds_toArray, List.set_cons_zero, List.set_cons_succ] <;> rfl) hSw ?_
            refine RestS.take 5 59 rfl (by kernel_rfl) (by kernel_rfl) (by kernel_rfl) (fun _ _ _ h => h) (by rfl) (by rfl) (by intro x hx; go_simp <;> with_reducible rfl) (by simp only [Act.put, List.setIfInBounds_toArray, List.set_cons_zero, List.set_cons_succ] <;> rfl) hSw ?_
            refine RestS.take 6 60 rfl (by kernel_rfl) (by kernel_rfl) (by kernel_rfl) (fun _ _ _ h => h) (by rfl) (by rfl) (by intro x hx; have hc := hx.1.cell; go_simp <;> with_reducible rfl) (by simp only [Act.put, List.setIfInBounds_toArray, List.set_cons_zero, List.set_cons_succ] <;> rfl) hSw ?_
            refine RestS.take 7 61 (v := .int .i64 (kT : Int)) rfl (by kernel_rfl) (by kernel_rfl) (by kernel_rfl) (fun _ _ _ h => h) (by rfl) (by rfl) (by intro x hx; have hr := hx.2.run hj63; go_simp <;> with_reducible rfl) (by simp only [Act.put, List.setIfInBounds_toArray, List.set_cons_zero, List.set_cons_succ] <;> rfl) hSw ?_
            refine RestS.take 8 62 (v := .pointer (some ⟨A, kT, none⟩)) rfl (by kernel_rfl) (by kernel_rfl) (by kernel_rfl) (fun _ _ _ h => h) (by rfl) (by rfl) (by intro x hx; have h1 := hkI; have h2 := hk0; have h3 := hcapT; go_simp <;> (first | with_reducible rfl | simp)) (by simp only [Act.put, List.setIfInBounds_toArray, List.set_cons_zero, List.set_cons_succ] <;> rfl) hSw ?_
            refine RestS.take 10 64 rfl (by kernel_rfl) (by kernel_rfl) (by kernel_rfl) (fun _ _ _ h => h) (by rfl) (by rfl) (by intro x hx; have hc := hx.1.cell; go_simp <;> with_reducible rfl) (by simp only [Act.put, List.setIfInBounds_toArray, List.set_cons_zero, List.set_cons_succ] <;> rfl) hSw ?_
            refine RestS.step2 9 11 rfl rfl (by kernel_rfl) (by rfl) (by rfl) (fun K hK => ?_) (fun K hK => ?_)
            · have hc := HC9.out
              go_simp
              refine hK.out _ _ hSw ?_
              clear hK K
              refine RestS.step 11 rfl (by kernel_rfl) (by rfl) (fun K hK => ?_)
              go_simp
              refine hK.out _ _ ⟨World.ownsRow.alloc hSw.1 _, hSw.2.kept (World.grownBy_alloc _ _ none) (by simp)⟩ ?_
              clear hK K
              obtain ⟨zX, hzX⟩ : ∃ y, y = zD.alloc (.cells #[.int .i64 (j : Int)] 3) := ⟨_, rfl⟩
              rw [← hzX]
              replace hSw : Box zX g j ∧ NumAt zX m (i + 1) j kT := by rw [hzX]; exact ⟨World.ownsRow.alloc hSw.1 _, hSw.2.kept (World.grownBy_alloc _ _ none) (by simp)⟩
              have HC9X : Hid (zX.cell? ⟨A, kT, none⟩ = some (.slice a3 n3 c3)) := by rw [hzX]; exact Lib.hid (cell_alloc (w := zD) HC9.out)
              have HIX : Hid (zX.ownsRow w0.heap.size 3 1 (.slice a3 n3 c3) n3 (ic gT[kT])) := by rw [hzX]; exact Lib.hid (HI.out.alloc _)
              have HOX : Hid (zX.ownsRow w0.heap.size 56 1 (.slice (some ⟨A, 0, none⟩) nT cT) nT vs) := by rw [hzX]; exact Lib.hid (HO.out.alloc _)
              have HSX : Hid (Sl zX 1 (some ⟨zD.heap.size, 0, none⟩) 1 1 [.int .i64 (j : Int)]) := by rw [hzX]; exact Lib.hid (Sl.single zD _ _ rfl)
              have HSZX : Hid (zD.heap.size ≤ zX.heap.size) := by rw [hzX]; exact Lib.hid (by simp)
              have HX2 := Lib.hid hzX
              clear hzX
              refine RestS.step 12 rfl (by kernel_rfl) (by rfl) (fun K hK => ?_)
              obtain ⟨i0, hi0i, hz0, hz1, hz2⟩ := info_parts info_int
              refine wp_append_sl zX _ _ 56 rfl w0.heap.size 3 i0 (.int .i64 0) 1 8 Try.underlying56 hi0i hz0 hz1 hz2 rfl (by decide) (.slice a3 n3 c3) n3 (ic gT[kT]) rfl HIX.out _ 1 1 _ rfl HSX.out (by have := HN3.out; unfold maxLen; omega) (by have := HN3.out; omega) (by have h1 := HBD.out.size; have h2 := HSZX.out; omega) ?_
              intro a4 c4 zY hownY hgY
              clear hi0i hz0 hz1 hz2
              have hgI := hSw.1.inner HIX.out HNIL.out HJT.out
              have hSY : Box zY g j ∧ NumAt zY m (i + 1) j kT := ⟨hSw.1.kept hgY hgI, hSw.2.kept hgY (hSw.2.num.apart HIX.out)⟩
              refine hK.out _ _ hSY ?_
              clear hK K
              simp only [Act.put, List.setIfInBounds_toArray, List.set_cons_zero, List.set_cons_succ]
              have hOY : zY.ownsRow w0.heap.size 56 1 (.slice (some ⟨A, 0, none⟩) nT cT) nT vs := HOX.out.kept hgY (rows_apartI HOX.out HIX.out (by decide))
              have HOY := Lib.hid hOY
              have HYY := Lib.hid hownY
              have HGY := Lib.hid hgY
              have hsY := hgY.size
              replace hSw := hSY
              clear hOY hownY hgY hSY hgI
              refine RestS.take 13 67 (v := .pointer (some ⟨A, kT, none⟩)) rfl (by kernel_rfl) (by kernel_rfl) (by kernel_rfl) (fun _ _ _ h => h) (by rfl) (by rfl) (by intro x hx; have h1 := hkI; have h2 := hk0; have h3 := hcapT; go_simp <;> (first | with_reducible rfl | simp)) (by simp only [Act.put, List.setIfInBounds_toArray, List.set_cons_zero, List.set_cons_succ] <;> rfl) hSw ?_
              refine RestS.step 14 rfl (by kernel_rfl) (by rfl) (fun K hK => ?_)
              have hc : zY.cell? ⟨A, kT, none⟩ = some (.slice a3 n3 c3) := by rw [HOY.out.cellAt kT (by rw [Nat.mul_one]; exact hkN), HV3.out]
              have hf : zY.frozen? ⟨A, kT, none⟩ = false := HOY.out.frozenAt kT
              go_simp
              refine hK.out _ _ ⟨hSw.1.kept (grownBy_setCell zY A kT _) (by simpa using hgA), hSw.2.kept (grownBy_setCell zY A kT _) ?_⟩ ?_
              · have := hSw.2.num.apart HOY.out
                simpa [Value.ownBlock] using this
              clear hK K hc hf
              refine wpAnyH_done (by kernel_rfl) ?_ _
              simp only [Exit.inBlock, Exit.then]
              refine hKC _ _ ?_
              go_wp2
              go_roundw
              case rel =>
                refine ⟨i + 1, some ⟨A, 0, none⟩, nT, cT, gT.set kT (gT[kT] ++ [j]), by go_num, by omega, rfl, by omega, HRES, HGS, Lib.hid ?_, Lib.hid ?_, Lib.hid (hSw.2.num.kept (grownBy_setCell zY A kT _) ?_), Lib.hid ?_⟩
                · intro q hq
                  rcases List.mem_or_eq_of_mem_set hq with hq | rfl
                  · have := HLT.out q hq; omega
                  · have := HLT.out _ (List.getElem_mem hkT); rw [List.length_append]; simpa using this
                · refine GatI.add (w := zD) (tmp := .cells #[.int .i64 (j : Int)] 3) HGD.out hkT HI.out HNIL.out (by rw [← HX2.out]; exact HGY.out) HHT.out rfl HYY.out
                · have := hSw.2.num.apart HOY.out
                  simpa [Value.ownBlock] using this
                · have hbX : Below w0.heap.size w0 zX := by rw [HX2.out]; exact HBD.out.alloc HBD.out.size _
                  exact (hbX.grown HGY.out hbX.size (fun q hq => (HIX.out.lt q hq).1)).setCell (p := ⟨A, kT, none⟩) hA0 _
              case measure => simp [intOf]; omega
            · go_simp
              refine hK.out _ _ ⟨World.ownsRow.alloc hSw.1 _, hSw.2.kept (World.grownBy_alloc _ _ none) (by simp)⟩ ?_
              clear hK K
              obtain ⟨zX, hzX⟩ : ∃ y, y = zD.alloc (.cells #[.int .i64 (j : Int)] 3) := ⟨_, rfl⟩
              rw [← hzX]
              replace hSw : Box zX g j ∧ NumAt zX m (i + 1) j kT := by rw [hzX]; exact ⟨World.ownsRow.alloc hSw.1 _, hSw.2.kept (World.grownBy_alloc _ _ none) (by simp)⟩
              have HC9X : Hid (zX.cell? ⟨A, kT, none⟩ = some (.slice a3 n3 c3)) := by rw [hzX]; exact Lib.hid (cell_alloc (w := zD) HC9.out)
              have HIX : Hid (zX.ownsRow w0.heap.size 3 1 (.slice a3 n3 c3) n3 (ic gT[kT])) := by rw [hzX]; exact Lib.hid (HI.out.alloc _)
              have HOX : Hid (zX.ownsRow w0.heap.size 56 1 (.slice (some ⟨A, 0, none⟩) nT cT) nT vs) := by rw [hzX]; exact Lib.hid (HO.out.alloc _)
              have HSX : Hid (Sl zX 1 (some ⟨zD.heap.size, 0, none⟩) 1 1 [.int .i64 (j : Int)]) := by rw [hzX]; exact Lib.hid (Sl.single zD _ _ rfl)
              have HSZX : Hid (zD.heap.size ≤ zX.heap.size) := by rw [hzX]; exact Lib.hid (by simp)
              have HX2 := Lib.hid hzX
              clear hzX
              refine RestS.step 9 rfl (by kernel_rfl) (by rfl) (fun K hK => ?_)
              have hc := HC9X.out
              go_simp
              refine hK.out _ _ hSw ?_
              clear hK K
              refine RestS.step 12 rfl (by kernel_rfl) (by rfl) (fun K hK => ?_)
              obtain ⟨i0, hi0i, hz0, hz1, hz2⟩ := info_parts info_int
              refine wp_append_sl zX _ _ 56 rfl w0.heap.size 3 i0 (.int .i64 0) 1 8 Try.underlying56 hi0i hz0 hz1 hz2 rfl (by decide) (.slice a3 n3 c3) n3 (ic gT[kT]) rfl HIX.out _ 1 1 _ rfl HSX.out (by have := HN3.out; unfold maxLen; omega) (by have := HN3.out; omega) (by have h1 := HBD.out.size; have h2 := HSZX.out; omega) ?_
              intro a4 c4 zY hownY hgY
              clear hi0i hz0 hz1 hz2
              have hgI := hSw.1.inner HIX.out HNIL.out HJT.out
              have hSY : Box zY g j ∧ NumAt zY m (i + 1) j kT := ⟨hSw.1.kept hgY hgI, hSw.2.kept hgY (hSw.2.num.apart HIX.out)⟩
              refine hK.out _ _ hSY ?_
              clear hK K
              simp only [Act.put, List.setIfInBounds_toArray, List.set_cons_zero, List.set_cons_succ]
              have hOY : zY.ownsRow w0.heap.size 56 1 (.slice (some ⟨A, 0, none⟩) nT cT) nT vs := HOX.out.kept hgY (rows_apartI HOX.out HIX.out (by decide))
              have HOY := Lib.hid hOY
              have HYY := Lib.hid hownY
              have HGY := Lib.hid hgY
              have hsY := hgY.size
              replace hSw := hSY
              clear hOY hownY hgY hSY hgI
              refine RestS.take 13 67 (v := .pointer (some ⟨A, kT, none⟩)) rfl (by kernel_rfl) (by kernel_rfl) (by kernel_rfl) (fun _ _ _ h => h) (by rfl) (by rfl) (by intro x hx; have h1 := hkI; have h2 := hk0; have h3 := hcapT; go_simp <;> (first | with_reducible rfl | simp)) (by simp only [Act.put, List.setIfInBounds_toArray, List.set_cons_zero, List.set_cons_succ] <;> rfl) hSw ?_
              refine RestS.step 14 rfl (by kernel_rfl) (by rfl) (fun K hK => ?_)
              have hc : zY.cell? ⟨A, kT, none⟩ = some (.slice a3 n3 c3) := by rw [HOY.out.cellAt kT (by rw [Nat.mul_one]; exact hkN), HV3.out]
              have hf : zY.frozen? ⟨A, kT, none⟩ = false := HOY.out.frozenAt kT
              go_simp
              refine hK.out _ _ ⟨hSw.1.kept (grownBy_setCell zY A kT _) (by simpa using hgA), hSw.2.kept (grownBy_setCell zY A kT _) ?_⟩ ?_
              · have := hSw.2.num.apart HOY.out
                simpa [Value.ownBlock] using this
              clear hK K hc hf
              refine wpAnyH_done (by kernel_rfl) ?_ _
              simp only [Exit.inBlock, Exit.then]
              refine hKC _ _ ?_
              go_wp2
              go_roundw
              case rel =>
                refine ⟨i + 1, some ⟨A, 0, none⟩, nT, cT, gT.set kT (gT[kT] ++ [j]), by go_num, by omega, rfl, by omega, HRES, HGS, Lib.hid ?_, Lib.hid ?_, Lib.hid (hSw.2.num.kept (grownBy_setCell zY A kT _) ?_), Lib.hid ?_⟩
                · intro q hq
                  rcases List.mem_or_eq_of_mem_set hq with hq | rfl
                  · have := HLT.out q hq; omega
                  · have := HLT.out _ (List.getElem_mem hkT); rw [List.length_append]; simpa using this
                · refine GatI.add (w := zD) (tmp := .cells #[.int .i64 (j : Int)] 3) HGD.out hkT HI.out HNIL.out (by rw [← HX2.out]; exact HGY.out) HHT.out rfl HYY.out
                · have := hSw.2.num.apart HOY.out
                  simpa [Value.ownBlock] using this
                · have hbX : Below w0.heap.size w0 zX := by rw [HX2.out]; exact HBD.out.alloc HBD.out.size _
                  exact (hbX.grown HGY.out hbX.size (fun q hq => (HIX.out.lt q hq).1)).setCell (p := ⟨A, kT, none⟩) hA0 _
              case measure => simp [intOf]; omega
        · have hBt : B = true := by rw [hB]; simp [hyM]
          subst hBt
          refine wp_cond_true rfl ?_
          refine wp_exit ?_
          simp only [Exit.inBlock, Exit.then]
          refine hKC _ _ ?_
          rw [if_neg hyM, List.append_nil] at HTOP
          go_wp2
          go_roundw
          case rel => exact ⟨i + 1, a1, n1, c1, gs, by go_num, by omega, rfl, by omega, Lib.hid (by rw [HTOP.out]; exact HGSD.out), Lib.hid (HGSO.out.mono (fun q hq => by rw [HTK.out]; exact List.mem_append_left _ hq)), Lib.hid (fun q hq => by have := HLE.out q hq; omega), Lib.hid (HGAT.out.below HB2.out), Lib.hid (by obtain ⟨D, h1, h2⟩ := HNUM.out; exact ⟨D, h1, (h2.kept (row := none) (grownBy_below HB2.out) (by simp)).mono (by omega)⟩), Lib.hid (HBW.out.trans (HB2.out.mono HBW.out.size))⟩
          case measure => simp [intOf]; omega
      · have hiI : ¬ (i : Int) < nc := by omega
        obtain rfl : nc = i := by omega
        go_wp2
        go_ret
        have h1 := HGSD.out
        have h2 := HGSO.out
        rw [List.take_of_length_le (by have := HLC.out; omega)] at h1 h2
        have h3 : gs = sidesL xs cand := by rw [h1, HM.out]; rfl
        subst h3
        exact ⟨a1, n1, c1, rfl, HGAT.out.gis, h2, HB0.out.trans (HBW.out.mono (by omega))⟩

end Go.Proofs.Ytgpfjinkmagelaa
