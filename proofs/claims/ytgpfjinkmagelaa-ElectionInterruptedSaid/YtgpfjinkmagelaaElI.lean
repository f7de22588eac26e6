/- Elections: the reference's votes, outlives, better. (Printed by el9.py.) -/
import Derived.Test.YtgpfjinkmagelaaElH
set_option linter.unusedVariables false
set_option linter.unusedSimpArgs false
namespace Go.Proofs.Ytgpfjinkmagelaa
open Go Go.RowKit Go.Lib

theorem votesN_app (xs : List LL) (l : List Nat) (i : Nat) (x : Lb) : votesN xs (l ++ [i]) x = votesN xs l x + (if (lab xs i).equal x then 1 else 0) := by
  unfold votesN
  rw [mateL_app, List.length_append]
  split <;> rfl
theorem lowN_app (xs : List LL) (l : List Nat) (i : Nat) (x : Lb) : lowN xs (l ++ [i]) x = if (lab xs i).equal x then min (lowN xs l x) (lab xs i).dk else lowN xs l x := by
  unfold lowN
  rw [mateL_app, List.foldl_append]
  split <;> rfl
theorem outlR_app (xs : List LL) (l : List Nat) (i : Nat) (x : Lb) : outlR xs (l ++ [i]) x = (outlR xs l x && (!(decide ((lab xs i).gen = x.gen)) || decide ((lab xs i).equal x) || inDead x.dead (lab xs i).dk)) := by
  unfold outlR
  rw [List.all_append]
  simp
theorem outlR_false {xs : List LL} {l m : List Nat} {x : Lb} (hs : ∀ i ∈ l, i ∈ m) (h : outlR xs l x = false) : outlR xs m x = false := by
  unfold outlR at *
  rw [Bool.eq_false_iff] at *
  exact fun h2 => h (List.all_eq_true.2 fun i hi => List.all_eq_true.1 h2 i (hs i hi))
theorem candP_mono {xs : List LL} {rd : List Bool} {k m : Nat} (h : k ≤ m) : ∀ i ∈ candP xs rd k, i ∈ candP xs rd m := by
  intro i hi
  obtain ⟨h1, h2⟩ := List.mem_filter.1 hi
  exact List.mem_filter.2 ⟨List.mem_range.2 (by have := List.mem_range.1 h1; omega), h2⟩

set_option maxRecDepth 100000 in
set_option maxHeartbeats 3200000 in
theorem votes_any (xs : List LL) (a : Option Addr) (n c : Nat) (rd : List Bool) (ar : Option Addr) (cr : Nat) (x : Lb) (ad : Option Addr) (nd cx : Nat) (w : World) (hX : Lbs w a n c xs) (hR : Sl w 1 ar n cr (bb rd)) (hx : Sl w 1 ad nd cx (bb x.dead)) (hok : ∀ x ∈ xs, x.l.ok) (hn6 : n ≤ 500) :
    Calls Try.prog 36 #[.slice a n c, .slice ar n cr, .agg (x.arrv ad nd cx)] w fun e w' => e = .returned (.tuple #[.int .i64 (votesN xs (candL xs rd) x : Int), .int .i64 (lowN xs (candL xs rd) x)]) ∧ Below w.heap.size w w' := by
  have hlen := hX.len
  have hrl : rd.length = n := by have := hR.len; rw [bb_length] at this; omega
  have hcapL := hX.sl.cap
  have hcapR := hR.cap
  have HLX := Lib.hid hlen
  have HLR := Lib.hid hrl
  have HOK := Lib.hid hok
  clear hlen hrl hok
  unfold Lb.arrv
  go_enter Try.func36, Try.ntmps36
  refine wp_seq_k (fun K0 hK0 => ?_)
  refine Lin.begin ?_
  refine Lin.takeW 5 rfl rfl (by go_simp; exact ⟨rfl, rfl⟩) (by simp only [Act.put, List.setIfInBounds_toArray, List.set_cons_zero, List.set_cons_succ] <;> rfl) ?_
  intro w1 hw1
  obtain ⟨g, hg⟩ : ∃ g, g = w.heap.size := ⟨_, rfl⟩
  rw [← hg]
  have L1 : Hid (LbAt x ad nd cx g w1) := by rw [hw1, hg]; exact Lib.hid (LbAt.new x ad nd cx 32 w)
  have hb1 : Below w.heap.size w w1 := by rw [hw1]; exact (Below.refl _ _).alloc (Nat.le_refl _) _
  have hsz1 : w1.heap.size = g + 1 := by rw [hw1, hg]; simp
  have HG := Lib.hid hg
  have HB1 := Lib.hid hb1
  have HX := Lib.hid (hX.below hb1)
  have HRD := Lib.hid (hR.below hb1)
  have HDA := Lib.hid (hx.below hb1)
  clear hw1 hg hb1 hX hR hx
  refine Lin.take 6 rfl rfl (by go_simp <;> with_reducible rfl) (by simp only [Act.put, List.setIfInBounds_toArray, List.set_cons_zero, List.set_cons_succ] <;> rfl) ?_
  refine Lin.take 7 rfl rfl (by go_simp <;> with_reducible rfl) (by simp only [Act.put, List.setIfInBounds_toArray, List.set_cons_zero, List.set_cons_succ] <;> rfl) ?_
  refine Lin.done (hK0 _ _ ?_)
  clear hK0 K0
  go_wp2
  go_loopw [8, 9, 10] (fun vv lv iv wr => ∃ (i v : Nat) (lo : Int), iv = .int .i64 (i : Int) ∧ i ≤ n ∧ vv = .int .i64 (v : Int) ∧ v ≤ i ∧ lv = .int .i64 lo ∧ Hid (v = votesN xs (candP xs rd i) x) ∧ Hid (lo = lowN xs (candP xs rd i) x) ∧ Hid (Below w1.heap.size w1 wr)) (fun _ _ iv _ => n - (intOf iv).toNat)
  case atStart => exact ⟨0, 0, 60, rfl, by omega, rfl, by omega, rfl, Lib.hid rfl, Lib.hid rfl, Lib.hid (Below.refl _ _)⟩
  case round =>
  obtain ⟨i, v, lo, rfl, hin, rfl, hvi, rfl, HVN, HLN, HBW⟩ := hrel
  by_cases hi : i < n
  ·
    have hiI : (i : Int) < n := by omega
    have hi0 : (0 : Int) ≤ (i : Int) := by omega
    have hil : i < xs.length := by have := HLX.out; omega
    have hir : i < rd.length := by have := HLR.out; omega
    obtain ⟨bL, oL, haL, hbL, r0⟩ := (HX.out.below HBW.out).at hil
    obtain ⟨bR, oR, haR, hcellR⟩ := (HRD.out.below HBW.out).at (k := i) (by rw [bb_length]; exact hir)
    have hcR := hcellR i (by rw [bb_length]; exact hir)
    simp only [bb, List.getElem_map] at hcR
    have hbR := World.block_lt_of_cell? wr _ hcR
    simp only at hbR
    have hcp := candP_succ xs rd i
    have hoki : okI xs rd i = (rd[i] && decide (lab xs i).valid) := by
      unfold okI
      rw [List.getD_eq_getElem?_getD, List.getElem?_eq_getElem hir]
      rfl
    have hlab := lab_lt hil
    rw [hoki, hlab] at hcp
    have hdy := (HX.out.below HBW.out).dead _ (List.getElem_mem hil)
    have hoy := HOK.out _ (List.getElem_mem hil)
    obtain ⟨y, hye⟩ : ∃ y, y = xs[i] := ⟨_, rfl⟩
    obtain ⟨rb, hrb⟩ : ∃ rb, rb = rd[i] := ⟨_, rfl⟩
    rw [← hye] at r0 hcp hdy hoy hlab
    rw [← hrb] at hcR hcp
    obtain ⟨V, hV⟩ : ∃ V, V = decide y.l.valid := ⟨_, rfl⟩
    obtain ⟨M, hM⟩ : ∃ M, M = decide (y.l.equal x) := ⟨_, rfl⟩
    rw [← hV] at hcp
    have RI := Lib.hid r0
    have CR : Hid (∀ z, Below wr.heap.size wr z → z.cell? ⟨bR, oR + i, none⟩ = some (.bool rb)) := Lib.hid fun z hz => below_cell hz hbR hcR
    have HCP := Lib.hid hcp
    have HDY := Lib.hid hdy
    have HOY := Lib.hid hoy
    have HLAB := Lib.hid hlab
    have HVE := Lib.hid hV
    have HME := Lib.hid hM
    have HV : Hid (∀ z, Below wr.heap.size wr z → Calls Try.prog 16 #[.agg y.arr.toList.toArray] z fun e w' => e = .returned (.bool V) ∧ Below z.heap.size z w') := by
      rw [hV]
      exact Lib.hid fun z hz => refValid_any y.l y.ad y.nd y.c z (hdy.below hz) hoy
    have LX := Lib.hid (L1.out.below HBW.out (by omega))
    have hgr : g < wr.heap.size := by have := HBW.out.size; omega
    have HDX := Lib.hid (HDA.out.below HBW.out)
    have HM : Hid (∀ z, Below wr.heap.size wr z → Calls Try.prog 15 #[.agg y.arr.toList.toArray, .agg (x.arrv ad nd cx).toList.toArray] z fun e w' => e = .returned (.bool M) ∧ Below z.heap.size z w') := by
      rw [hM]
      exact Lib.hid fun z hz => refEqual_any y.l x y.ad ad y.nd nd y.c cx z (hdy.below hz) (HDX.out.below hz) hoy.short
    subst haL haR
    clear hcellR hcR hcp hdy hoy hye hrb hoki r0 hlab hV hM
    have HB := Lib.hid (show Below wr.heap.size wr wr.drew from (Below.refl _ _).drew)
    have hs : wr.heap.size ≤ wr.drew.heap.size := Nat.le_refl _
    obtain ⟨D, hD⟩ : ∃ D, D = y.l.dk := ⟨_, rfl⟩
    have CD : Hid (wr.cell? ⟨bL, oL + i * 19 + 1, none⟩ = some (.int .i64 D)) := by rw [hD]; exact Lib.hid (RI.out 1 _ rfl)
    have HD := Lib.hid hD
    clear hD
    cases rb with
    | false =>
      go_wp2
      refine Rest.begin 19 (by kernel_rfl) (by kernel_rfl) ?_
      refine Rest.take 0 17 rfl (by kernel_rfl) (by kernel_rfl) (by kernel_rfl) (fun _ _ _ h => h) (by rfl) (by rfl) (by intro x hx; go_simp <;> with_reducible rfl) (by simp only [Act.put, List.setIfInBounds_toArray, List.set_cons_zero, List.set_cons_succ] <;> rfl) ?_
      refine Rest.take 1 18 rfl (by kernel_rfl) (by kernel_rfl) (by kernel_rfl) (fun _ _ _ h => h) (by rfl) (by rfl) (by intro x hx; go_simp <;> with_reducible rfl) (by simp only [Act.put, List.setIfInBounds_toArray, List.set_cons_zero, List.set_cons_succ] <;> rfl) ?_
      refine Rest.take 2 19 (v := .pointer (some ⟨bR, oR + i, none⟩)) rfl (by kernel_rfl) (by kernel_rfl) (by kernel_rfl) (fun _ _ _ h => h) (by rfl) (by rfl) (by intro x hx; have h1 := hiI; have h2 := hi0; have h3 := hcapR; go_simp <;> with_reducible rfl) (by simp only [Act.put, List.setIfInBounds_toArray, List.set_cons_zero, List.set_cons_succ] <;> rfl) ?_
      refine Rest.take 3 20 (v := .bool false) rfl (by kernel_rfl) (by kernel_rfl) (by kernel_rfl) (fun _ _ _ h => h) (by rfl) (by rfl) (by intro x hx; have hc := CR.out x (later HB hs hx); go_simp <;> with_reducible rfl) (by simp only [Act.put, List.setIfInBounds_toArray, List.set_cons_zero, List.set_cons_succ] <;> rfl) ?_
      refine Rest.take 4 21 rfl (by kernel_rfl) (by kernel_rfl) (by kernel_rfl) (fun _ _ _ h => h) (by rfl) (by rfl) (by intro x hx; go_simp <;> with_reducible rfl) (by simp only [Act.put, List.setIfInBounds_toArray, List.set_cons_zero, List.set_cons_succ] <;> rfl) ?_
      refine Rest.skip 5 22 rfl (by kernel_rfl) (by kernel_rfl) (by kernel_rfl) (fun _ _ _ h => h) (by rfl) (by rfl) (by simp only [Act.put, List.setIfInBounds_toArray, List.set_cons_zero, List.set_cons_succ] <;> rfl) ?_
      refine Rest.skip 6 23 rfl (by kernel_rfl) (by kernel_rfl) (by kernel_rfl) (fun _ _ _ h => h) (by rfl) (by rfl) (by simp only [Act.put, List.setIfInBounds_toArray, List.set_cons_zero, List.set_cons_succ] <;> rfl) ?_
      refine Rest.skip 7 24 rfl (by kernel_rfl) (by kernel_rfl) (by kernel_rfl) (fun _ _ _ h => h) (by rfl) (by rfl) (by simp only [Act.put, List.setIfInBounds_toArray, List.set_cons_zero, List.set_cons_succ] <;> rfl) ?_
      refine Rest.skip 8 25 rfl (by kernel_rfl) (by kernel_rfl) (by kernel_rfl) (fun _ _ _ h => h) (by rfl) (by rfl) (by simp only [Act.put, List.setIfInBounds_toArray, List.set_cons_zero, List.set_cons_succ] <;> rfl) ?_
      refine Rest.skip 9 26 rfl (by kernel_rfl) (by kernel_rfl) (by kernel_rfl) (fun _ _ _ h => h) (by rfl) (by rfl) (by simp only [Act.put, List.setIfInBounds_toArray, List.set_cons_zero, List.set_cons_succ] <;> rfl) ?_
      refine Rest.take 10 27 rfl (by kernel_rfl) (by kernel_rfl) (by kernel_rfl) (fun _ _ _ h => h) (by rfl) (by rfl) (by intro x hx; go_simp <;> with_reducible rfl) (by simp only [Act.put, List.setIfInBounds_toArray, List.set_cons_zero, List.set_cons_succ] <;> rfl) ?_
      refine Rest.take 11 28 rfl (by kernel_rfl) (by kernel_rfl) (by kernel_rfl) (fun _ _ _ h => h) (by rfl) (by rfl) (by intro x hx; go_simp <;> with_reducible rfl) (by simp only [Act.put, List.setIfInBounds_toArray, List.set_cons_zero, List.set_cons_succ] <;> rfl) ?_
      refine Rest.skip 12 29 rfl (by kernel_rfl) (by kernel_rfl) (by kernel_rfl) (fun _ _ _ h => h) (by rfl) (by rfl) (by simp only [Act.put, List.setIfInBounds_toArray, List.set_cons_zero, List.set_cons_succ] <;> rfl) ?_
      refine Rest.skip 13 30 rfl (by kernel_rfl) (by kernel_rfl) (by kernel_rfl) (fun _ _ _ h => h) (by rfl) (by rfl) (by simp only [Act.put, List.setIfInBounds_toArray, List.set_cons_zero, List.set_cons_succ] <;> rfl) ?_
      refine Rest.skip 14 31 rfl (by kernel_rfl) (by kernel_rfl) (by kernel_rfl) (fun _ _ _ h => h) (by rfl) (by rfl) (by simp only [Act.put, List.setIfInBounds_toArray, List.set_cons_zero, List.set_cons_succ] <;> rfl) ?_
      refine Rest.skip 15 32 rfl (by kernel_rfl) (by kernel_rfl) (by kernel_rfl) (fun _ _ _ h => h) (by rfl) (by rfl) (by simp only [Act.put, List.setIfInBounds_toArray, List.set_cons_zero, List.set_cons_succ] <;> rfl) ?_
      refine Rest.skip 16 33 rfl (by kernel_rfl) (by kernel_rfl) (by kernel_rfl) (fun _ _ _ h => h) (by rfl) (by rfl) (by simp only [Act.put, List.setIfInBounds_toArray, List.set_cons_zero, List.set_cons_succ] <;> rfl) ?_
      refine Rest.skip 17 34 rfl (by kernel_rfl) (by kernel_rfl) (by kernel_rfl) (fun _ _ _ h => h) (by rfl) (by rfl) (by simp only [Act.put, List.setIfInBounds_toArray, List.set_cons_zero, List.set_cons_succ] <;> rfl) ?_
      refine Rest.take 18 35 rfl (by kernel_rfl) (by kernel_rfl) (by kernel_rfl) (fun _ _ _ h => h) (by rfl) (by rfl) (by intro x hx; go_simp <;> with_reducible rfl) (by simp only [Act.put, List.setIfInBounds_toArray, List.set_cons_zero, List.set_cons_succ] <;> rfl) ?_
      refine Rest.done (by kernel_rfl) ?_
      go_wp2
      go_roundw
      case rel => exact ⟨i + 1, v, lo, by go_num, by omega, rfl, by omega, rfl, Lib.hid (by rw [HCP.out]; simpa using HVN.out), Lib.hid (by rw [HCP.out]; simpa using HLN.out), Lib.hid (HBW.out.trans (HB.out.mono HBW.out.size))⟩
      case measure => simp [intOf]; omega
    | true =>
      cases V with
      | false =>
        go_wp2
        refine Rest.begin 19 (by kernel_rfl) (by kernel_rfl) ?_
        refine Rest.take 0 17 rfl (by kernel_rfl) (by kernel_rfl) (by kernel_rfl) (fun _ _ _ h => h) (by rfl) (by rfl) (by intro x hx; go_simp <;> with_reducible rfl) (by simp only [Act.put, List.setIfInBounds_toArray, List.set_cons_zero, List.set_cons_succ] <;> rfl) ?_
        refine Rest.take 1 18 rfl (by kernel_rfl) (by kernel_rfl) (by kernel_rfl) (fun _ _ _ h => h) (by rfl) (by rfl) (by intro x hx; go_simp <;> with_reducible rfl) (by simp only [Act.put, List.setIfInBounds_toArray, List.set_cons_zero, List.set_cons_succ] <;> rfl) ?_
        refine Rest.take 2 19 (v := .pointer (some ⟨bR, oR + i, none⟩)) rfl (by kernel_rfl) (by kernel_rfl) (by kernel_rfl) (fun _ _ _ h => h) (by rfl) (by rfl) (by intro x hx; have h1 := hiI; have h2 := hi0; have h3 := hcapR; go_simp <;> with_reducible rfl) (by simp only [Act.put, List.setIfInBounds_toArray, List.set_cons_zero, List.set_cons_succ] <;> rfl) ?_
        refine Rest.take 3 20 (v := .bool true) rfl (by kernel_rfl) (by kernel_rfl) (by kernel_rfl) (fun _ _ _ h => h) (by rfl) (by rfl) (by intro x hx; have hc := CR.out x (later HB hs hx); go_simp <;> with_reducible rfl) (by simp only [Act.put, List.setIfInBounds_toArray, List.set_cons_zero, List.set_cons_succ] <;> rfl) ?_
        refine Rest.take 4 21 rfl (by kernel_rfl) (by kernel_rfl) (by kernel_rfl) (fun _ _ _ h => h) (by rfl) (by rfl) (by intro x hx; go_simp <;> with_reducible rfl) (by simp only [Act.put, List.setIfInBounds_toArray, List.set_cons_zero, List.set_cons_succ] <;> rfl) ?_
        refine Rest.take 5 22 rfl (by kernel_rfl) (by kernel_rfl) (by kernel_rfl) (fun _ _ _ h => h) (by rfl) (by rfl) (by intro x hx; go_simp <;> with_reducible rfl) (by simp only [Act.put, List.setIfInBounds_toArray, List.set_cons_zero, List.set_cons_succ] <;> rfl) ?_
        refine Rest.take 6 23 rfl (by kernel_rfl) (by kernel_rfl) (by kernel_rfl) (fun _ _ _ h => h) (by rfl) (by rfl) (by intro x hx; go_simp <;> with_reducible rfl) (by simp only [Act.put, List.setIfInBounds_toArray, List.set_cons_zero, List.set_cons_succ] <;> rfl) ?_
        refine Rest.take 7 24 (v := .pointer (some ⟨bL, oL + i * 19, none⟩)) rfl (by kernel_rfl) (by kernel_rfl) (by kernel_rfl) (fun _ _ _ h => h) (by rfl) (by rfl) (by intro x hx; have h1 := hiI; have h2 := hi0; have h3 := hcapL; go_simp <;> with_reducible rfl) (by simp only [Act.put, List.setIfInBounds_toArray, List.set_cons_zero, List.set_cons_succ] <;> rfl) ?_
        refine Rest.takeMid 8 25 rfl (by kernel_rfl) (by kernel_rfl) (by kernel_rfl) 32 _ bL (oL + i * 19) y.arr.toList _ (fun _ _ _ h => h) (by rfl) rfl rfl (fun x hx => rangeAt_below RI.out (later HB hs hx) hbL) Try.underlying32 rfl (by kernel_rfl) rfl (by simp only [Act.put, List.setIfInBounds_toArray, List.set_cons_zero, List.set_cons_succ] <;> rfl) ?_
        refine Rest.step 9 rfl (by kernel_rfl) (by rfl) (fun K hK => ?_)
        go_simp
        go_at_call 16
        refine (HV.out _ HB.out).mono ?_
        rintro e wn ⟨rfl, hb⟩
        refine hK.out _ _ hb ?_
        clear hK K
        have HB := Lib.hid (HB.out.trans (hb.mono hs))
        have hs := Nat.le_trans hs hb.size
        clear hb
        refine Rest.take 10 27 rfl (by kernel_rfl) (by kernel_rfl) (by kernel_rfl) (fun _ _ _ h => h) (by rfl) (by rfl) (by intro x hx; go_simp <;> with_reducible rfl) (by simp only [Act.put, List.setIfInBounds_toArray, List.set_cons_zero, List.set_cons_succ] <;> rfl) ?_
        refine Rest.take 11 28 rfl (by kernel_rfl) (by kernel_rfl) (by kernel_rfl) (fun _ _ _ h => h) (by rfl) (by rfl) (by intro x hx; go_simp <;> with_reducible rfl) (by simp only [Act.put, List.setIfInBounds_toArray, List.set_cons_zero, List.set_cons_succ] <;> rfl) ?_
        refine Rest.skip 12 29 rfl (by kernel_rfl) (by kernel_rfl) (by kernel_rfl) (fun _ _ _ h => h) (by rfl) (by rfl) (by simp only [Act.put, List.setIfInBounds_toArray, List.set_cons_zero, List.set_cons_succ] <;> rfl) ?_
        refine Rest.skip 13 30 rfl (by kernel_rfl) (by kernel_rfl) (by kernel_rfl) (fun _ _ _ h => h) (by rfl) (by rfl) (by simp only [Act.put, List.setIfInBounds_toArray, List.set_cons_zero, List.set_cons_succ] <;> rfl) ?_
        refine Rest.skip 14 31 rfl (by kernel_rfl) (by kernel_rfl) (by kernel_rfl) (fun _ _ _ h => h) (by rfl) (by rfl) (by simp only [Act.put, List.setIfInBounds_toArray, List.set_cons_zero, List.set_cons_succ] <;> rfl) ?_
        refine Rest.skip 15 32 rfl (by kernel_rfl) (by kernel_rfl) (by kernel_rfl) (fun _ _ _ h => h) (by rfl) (by rfl) (by simp only [Act.put, List.setIfInBounds_toArray, List.set_cons_zero, List.set_cons_succ] <;> rfl) ?_
        refine Rest.skip 16 33 rfl (by kernel_rfl) (by kernel_rfl) (by kernel_rfl) (fun _ _ _ h => h) (by rfl) (by rfl) (by simp only [Act.put, List.setIfInBounds_toArray, List.set_cons_zero, List.set_cons_succ] <;> rfl) ?_
        refine Rest.skip 17 34 rfl (by kernel_rfl) (by kernel_rfl) (by kernel_rfl) (fun _ _ _ h => h) (by rfl) (by rfl) (by simp only [Act.put, List.setIfInBounds_toArray, List.set_cons_zero, List.set_cons_succ] <;> rfl) ?_
        refine Rest.take 18 35 rfl (by kernel_rfl) (by kernel_rfl) (by kernel_rfl) (fun _ _ _ h => h) (by rfl) (by rfl) (by intro x hx; go_simp <;> with_reducible rfl) (by simp only [Act.put, List.setIfInBounds_toArray, List.set_cons_zero, List.set_cons_succ] <;> rfl) ?_
        refine Rest.done (by kernel_rfl) ?_
        go_wp2
        go_roundw
        case rel => exact ⟨i + 1, v, lo, by go_num, by omega, rfl, by omega, rfl, Lib.hid (by rw [HCP.out]; simpa using HVN.out), Lib.hid (by rw [HCP.out]; simpa using HLN.out), Lib.hid (HBW.out.trans (HB.out.mono HBW.out.size))⟩
        case measure => simp [intOf]; omega
      | true =>
        have hcp2 : candP xs rd (i + 1) = candP xs rd i ++ [i] := by rw [HCP.out]; rfl
        have HCP2 := Lib.hid hcp2
        clear hcp2
        go_wp2
        refine Rest.begin 19 (by kernel_rfl) (by kernel_rfl) ?_
        refine Rest.take 0 17 rfl (by kernel_rfl) (by kernel_rfl) (by kernel_rfl) (fun _ _ _ h => h) (by rfl) (by rfl) (by intro x hx; go_simp <;> with_reducible rfl) (by simp only [Act.put, List.setIfInBounds_toArray, List.set_cons_zero, List.set_cons_succ] <;> rfl) ?_
        refine Rest.take 1 18 rfl (by kernel_rfl) (by kernel_rfl) (by kernel_rfl) (fun _ _ _ h => h) (by rfl) (by rfl) (by intro x hx; go_simp <;> with_reducible rfl) (by simp only [Act.put, List.setIfInBounds_toArray, List.set_cons_zero, List.set_cons_succ] <;> rfl) ?_
        refine Rest.take 2 19 (v := .pointer (some ⟨bR, oR + i, none⟩)) rfl (by kernel_rfl) (by kernel_rfl) (by kernel_rfl) (fun _ _ _ h => h) (by rfl) (by rfl) (by intro x hx; have h1 := hiI; have h2 := hi0; have h3 := hcapR; go_simp <;> with_reducible rfl) (by simp only [Act.put, List.setIfInBounds_toArray, List.set_cons_zero, List.set_cons_succ] <;> rfl) ?_
        refine Rest.take 3 20 (v := .bool true) rfl (by kernel_rfl) (by kernel_rfl) (by kernel_rfl) (fun _ _ _ h => h) (by rfl) (by rfl) (by intro x hx; have hc := CR.out x (later HB hs hx); go_simp <;> with_reducible rfl) (by simp only [Act.put, List.setIfInBounds_toArray, List.set_cons_zero, List.set_cons_succ] <;> rfl) ?_
        refine Rest.take 4 21 rfl (by kernel_rfl) (by kernel_rfl) (by kernel_rfl) (fun _ _ _ h => h) (by rfl) (by rfl) (by intro x hx; go_simp <;> with_reducible rfl) (by simp only [Act.put, List.setIfInBounds_toArray, List.set_cons_zero, List.set_cons_succ] <;> rfl) ?_
        refine Rest.take 5 22 rfl (by kernel_rfl) (by kernel_rfl) (by kernel_rfl) (fun _ _ _ h => h) (by rfl) (by rfl) (by intro x hx; go_simp <;> with_reducible rfl) (by simp only [Act.put, List.setIfInBounds_toArray, List.set_cons_zero, List.set_cons_succ] <;> rfl) ?_
        refine Rest.take 6 23 rfl (by kernel_rfl) (by kernel_rfl) (by kernel_rfl) (fun _ _ _ h => h) (by rfl) (by rfl) (by intro x hx; go_simp <;> with_reducible rfl) (by simp only [Act.put, List.setIfInBounds_toArray, List.set_cons_zero, List.set_cons_succ] <;> rfl) ?_
        refine Rest.take 7 24 (v := .pointer (some ⟨bL, oL + i * 19, none⟩)) rfl (by kernel_rfl) (by kernel_rfl) (by kernel_rfl) (fun _ _ _ h => h) (by rfl) (by rfl) (by intro x hx; have h1 := hiI; have h2 := hi0; have h3 := hcapL; go_simp <;> with_reducible rfl) (by simp only [Act.put, List.setIfInBounds_toArray, List.set_cons_zero, List.set_cons_succ] <;> rfl) ?_
        refine Rest.takeMid 8 25 rfl (by kernel_rfl) (by kernel_rfl) (by kernel_rfl) 32 _ bL (oL + i * 19) y.arr.toList _ (fun _ _ _ h => h) (by rfl) rfl rfl (fun x hx => rangeAt_below RI.out (later HB hs hx) hbL) Try.underlying32 rfl (by kernel_rfl) rfl (by simp only [Act.put, List.setIfInBounds_toArray, List.set_cons_zero, List.set_cons_succ] <;> rfl) ?_
        refine Rest.step 9 rfl (by kernel_rfl) (by rfl) (fun K hK => ?_)
        go_simp
        go_at_call 16
        refine (HV.out _ HB.out).mono ?_
        rintro e wn ⟨rfl, hb⟩
        refine hK.out _ _ hb ?_
        clear hK K
        have HB := Lib.hid (HB.out.trans (hb.mono hs))
        have hs := Nat.le_trans hs hb.size
        clear hb
        refine Rest.take 10 27 rfl (by kernel_rfl) (by kernel_rfl) (by kernel_rfl) (fun _ _ _ h => h) (by rfl) (by rfl) (by intro x hx; go_simp <;> with_reducible rfl) (by simp only [Act.put, List.setIfInBounds_toArray, List.set_cons_zero, List.set_cons_succ] <;> rfl) ?_
        refine Rest.take 11 28 rfl (by kernel_rfl) (by kernel_rfl) (by kernel_rfl) (fun _ _ _ h => h) (by rfl) (by rfl) (by intro x hx; go_simp <;> with_reducible rfl) (by simp only [Act.put, List.setIfInBounds_toArray, List.set_cons_zero, List.set_cons_succ] <;> rfl) ?_
        refine Rest.take 12 29 rfl (by kernel_rfl) (by kernel_rfl) (by kernel_rfl) (fun _ _ _ h => h) (by rfl) (by rfl) (by intro x hx; go_simp <;> with_reducible rfl) (by simp only [Act.put, List.setIfInBounds_toArray, List.set_cons_zero, List.set_cons_succ] <;> rfl) ?_
        refine Rest.take 13 30 rfl (by kernel_rfl) (by kernel_rfl) (by kernel_rfl) (fun _ _ _ h => h) (by rfl) (by rfl) (by intro x hx; go_simp <;> with_reducible rfl) (by simp only [Act.put, List.setIfInBounds_toArray, List.set_cons_zero, List.set_cons_succ] <;> rfl) ?_
        refine Rest.take 14 31 (v := .pointer (some ⟨bL, oL + i * 19, none⟩)) rfl (by kernel_rfl) (by kernel_rfl) (by kernel_rfl) (fun _ _ _ h => h) (by rfl) (by rfl) (by intro x hx; have h1 := hiI; have h2 := hi0; have h3 := hcapL; go_simp <;> with_reducible rfl) (by simp only [Act.put, List.setIfInBounds_toArray, List.set_cons_zero, List.set_cons_succ] <;> rfl) ?_
        refine Rest.takeMid 15 32 rfl (by kernel_rfl) (by kernel_rfl) (by kernel_rfl) 32 _ bL (oL + i * 19) y.arr.toList _ (fun _ _ _ h => h) (by rfl) rfl rfl (fun x hx => rangeAt_below RI.out (later HB hs hx) hbL) Try.underlying32 rfl (by kernel_rfl) rfl (by simp only [Act.put, List.setIfInBounds_toArray, List.set_cons_zero, List.set_cons_succ] <;> rfl) ?_
        refine Rest.takeMid 16 33 rfl (by kernel_rfl) (by kernel_rfl) (by kernel_rfl) 32 _ g 0 (x.arrv ad nd cx).toList _ (fun _ _ _ h => h) (by rfl) rfl rfl (fun z hz => rangeAt_below LX.out.range (later HB hs hz) hgr) Try.underlying32 rfl (by kernel_rfl) rfl (by simp only [Act.put, List.setIfInBounds_toArray, List.set_cons_zero, List.set_cons_succ] <;> rfl) ?_
        refine Rest.step 17 rfl (by kernel_rfl) (by rfl) (fun K hK => ?_)
        go_simp
        go_at_call 15
        refine (HM.out _ HB.out).mono ?_
        rintro e wn ⟨rfl, hb⟩
        refine hK.out _ _ hb ?_
        clear hK K
        have HB := Lib.hid (HB.out.trans (hb.mono hs))
        have hs := Nat.le_trans hs hb.size
        clear hb
        refine Rest.take 18 35 rfl (by kernel_rfl) (by kernel_rfl) (by kernel_rfl) (fun _ _ _ h => h) (by rfl) (by rfl) (by intro x hx; go_simp <;> with_reducible rfl) (by simp only [Act.put, List.setIfInBounds_toArray, List.set_cons_zero, List.set_cons_succ] <;> rfl) ?_
        refine Rest.done (by kernel_rfl) ?_
        have hvn := votesN_app xs (candP xs rd i) i x
        have hln := lowN_app xs (candP xs rd i) i x
        rw [HLAB.out, ← HCP2.out, ← HVN.out] at hvn
        rw [HLAB.out, ← HCP2.out, ← HLN.out, ← HD.out] at hln
        have HVN2 := Lib.hid hvn
        have HLN2 := Lib.hid hln
        have hc := below_cell HB.out hbL CD.out
        clear hvn hln HVN HLN
        cases M with
        | false =>
          have hne : ¬ y.l.equal x := by have := HME.out; simpa using this.symm
          go_wp2
          go_roundw
          case rel => exact ⟨i + 1, v, lo, by go_num, by omega, rfl, by omega, rfl, Lib.hid (by rw [HVN2.out, if_neg hne]; rfl), Lib.hid (by rw [HLN2.out, if_neg hne]), Lib.hid (HBW.out.trans (HB.out.mono HBW.out.size))⟩
          case measure => simp [intOf]; omega
        | true =>
          have heq : y.l.equal x := by have := HME.out; simpa using this.symm
          have HEQ := Lib.hid heq
          clear heq
          by_cases hdl : D < lo
          · go_wp2
            go_roundw
            case rel => exact ⟨i + 1, v + 1, D, by go_num, by omega, by go_num, by omega, rfl, Lib.hid (by rw [HVN2.out, if_pos HEQ.out]), Lib.hid (by rw [HLN2.out, if_pos HEQ.out]; omega), Lib.hid (HBW.out.trans (HB.out.mono HBW.out.size))⟩
            case measure => simp [intOf]; omega
          · go_wp2
            go_roundw
            case rel => exact ⟨i + 1, v + 1, lo, by go_num, by omega, by go_num, by omega, rfl, Lib.hid (by rw [HVN2.out, if_pos HEQ.out]), Lib.hid (by rw [HLN2.out, if_pos HEQ.out]; omega), Lib.hid (HBW.out.trans (HB.out.mono HBW.out.size))⟩
            case measure => simp [intOf]; omega
  · have hiI : ¬ (i : Int) < n := by omega
    obtain rfl : n = i := by omega
    go_wp2
    go_ret2
    have h1 := HVN.out
    have h2 := HLN.out
    rw [← HLX.out, ← candL_P] at h1 h2
    subst h1 h2
    exact ⟨rfl, HB1.out.trans (HBW.out.mono HB1.out.size)⟩

set_option maxRecDepth 100000 in
set_option maxHeartbeats 3200000 in
theorem refOutlives_any (xs : List LL) (a : Option Addr) (n c : Nat) (rd : List Bool) (ar : Option Addr) (cr : Nat) (x : Lb) (ad : Option Addr) (nd cx : Nat) (w : World) (hX : Lbs w a n c xs) (hR : Sl w 1 ar n cr (bb rd)) (hx : Sl w 1 ad nd cx (bb x.dead)) (hok : ∀ x ∈ xs, x.l.ok) (hxs : x.dead.length ≤ 1000000) (hn6 : n ≤ 500) :
    Calls Try.prog 35 #[.slice a n c, .slice ar n cr, .agg (x.arrv ad nd cx)] w fun e w' => e = .returned (.bool (outlR xs (candL xs rd) x)) ∧ Below w.heap.size w w' := by
  have HXL : Hid (x.dead.length = nd) := by have := hx.len; rw [bb_length] at this; exact Lib.hid (by omega)
  have hnd6 : nd ≤ 1000000 := by have := HXL.out; omega
  have HXC := Lib.hid hx.cap
  have hlen := hX.len
  have hrl : rd.length = n := by have := hR.len; rw [bb_length] at this; omega
  have hcapL := hX.sl.cap
  have hcapR := hR.cap
  have HLX := Lib.hid hlen
  have HLR := Lib.hid hrl
  have HOK := Lib.hid hok
  clear hlen hrl hok
  unfold Lb.arrv
  go_enter Try.func35, Try.ntmps35
  refine wp_seq_k (fun K0 hK0 => ?_)
  refine Lin.begin ?_
  refine Lin.takeW 5 rfl rfl (by go_simp; exact ⟨rfl, rfl⟩) (by simp only [Act.put, List.setIfInBounds_toArray, List.set_cons_zero, List.set_cons_succ] <;> rfl) ?_
  intro w1 hw1
  obtain ⟨g, hg⟩ : ∃ g, g = w.heap.size := ⟨_, rfl⟩
  rw [← hg]
  have L1 : Hid (LbAt x ad nd cx g w1) := by rw [hw1, hg]; exact Lib.hid (LbAt.new x ad nd cx 32 w)
  have hb1 : Below w.heap.size w w1 := by rw [hw1]; exact (Below.refl _ _).alloc (Nat.le_refl _) _
  have hsz1 : w1.heap.size = g + 1 := by rw [hw1, hg]; simp
  have HG := Lib.hid hg
  have HB1 := Lib.hid hb1
  have HX := Lib.hid (hX.below hb1)
  have HRD := Lib.hid (hR.below hb1)
  have HDA := Lib.hid (hx.below hb1)
  clear hw1 hg hb1 hX hR hx
  refine Lin.take 6 rfl rfl (by go_simp <;> with_reducible rfl) (by simp only [Act.put, List.setIfInBounds_toArray, List.set_cons_zero, List.set_cons_succ] <;> rfl) ?_
  refine Lin.done (hK0 _ _ ?_)
  clear hK0 K0
  go_wp2
  go_loopw [7] (fun iv wr => ∃ (i : Nat), iv = .int .i64 (i : Int) ∧ i ≤ n ∧ Hid (outlR xs (candP xs rd i) x = true) ∧ Hid (Below w1.heap.size w1 wr)) (fun iv _ => n - (intOf iv).toNat)
  case atStart => exact ⟨0, rfl, by omega, Lib.hid rfl, Lib.hid (Below.refl _ _)⟩
  case round =>
  obtain ⟨i, rfl, hin, HOT, HBW⟩ := hrel
  by_cases hi : i < n
  ·
    have hiI : (i : Int) < n := by omega
    have hi0 : (0 : Int) ≤ (i : Int) := by omega
    have hil : i < xs.length := by have := HLX.out; omega
    have hir : i < rd.length := by have := HLR.out; omega
    obtain ⟨bL, oL, haL, hbL, r0⟩ := (HX.out.below HBW.out).at hil
    obtain ⟨bR, oR, haR, hcellR⟩ := (HRD.out.below HBW.out).at (k := i) (by rw [bb_length]; exact hir)
    have hcR := hcellR i (by rw [bb_length]; exact hir)
    simp only [bb, List.getElem_map] at hcR
    have hbR := World.block_lt_of_cell? wr _ hcR
    simp only at hbR
    have hcp := candP_succ xs rd i
    have hoki : okI xs rd i = (rd[i] && decide (lab xs i).valid) := by
      unfold okI
      rw [List.getD_eq_getElem?_getD, List.getElem?_eq_getElem hir]
      rfl
    have hlab := lab_lt hil
    rw [hoki, hlab] at hcp
    have hdy := (HX.out.below HBW.out).dead _ (List.getElem_mem hil)
    have hoy := HOK.out _ (List.getElem_mem hil)
    obtain ⟨y, hye⟩ : ∃ y, y = xs[i] := ⟨_, rfl⟩
    obtain ⟨rb, hrb⟩ : ∃ rb, rb = rd[i] := ⟨_, rfl⟩
    rw [← hye] at r0 hcp hdy hoy hlab
    rw [← hrb] at hcR hcp
    obtain ⟨V, hV⟩ : ∃ V, V = decide y.l.valid := ⟨_, rfl⟩
    obtain ⟨M, hM⟩ : ∃ M, M = decide (y.l.equal x) := ⟨_, rfl⟩
    rw [← hV] at hcp
    have RI := Lib.hid r0
    have CR : Hid (∀ z, Below wr.heap.size wr z → z.cell? ⟨bR, oR + i, none⟩ = some (.bool rb)) := Lib.hid fun z hz => below_cell hz hbR hcR
    have HCP := Lib.hid hcp
    have HDY := Lib.hid hdy
    have HOY := Lib.hid hoy
    have HLAB := Lib.hid hlab
    have HVE := Lib.hid hV
    have HME := Lib.hid hM
    have HV : Hid (∀ z, Below wr.heap.size wr z → Calls Try.prog 16 #[.agg y.arr.toList.toArray] z fun e w' => e = .returned (.bool V) ∧ Below z.heap.size z w') := by
      rw [hV]
      exact Lib.hid fun z hz => refValid_any y.l y.ad y.nd y.c z (hdy.below hz) hoy
    have LX := Lib.hid (L1.out.below HBW.out (by omega))
    have hgr : g < wr.heap.size := by have := HBW.out.size; omega
    have HDX := Lib.hid (HDA.out.below HBW.out)
    have HM : Hid (∀ z, Below wr.heap.size wr z → Calls Try.prog 15 #[.agg y.arr.toList.toArray, .agg (x.arrv ad nd cx).toList.toArray] z fun e w' => e = .returned (.bool M) ∧ Below z.heap.size z w') := by
      rw [hM]
      exact Lib.hid fun z hz => refEqual_any y.l x y.ad ad y.nd nd y.c cx z (hdy.below hz) (HDX.out.below hz) hoy.short
    subst haL haR
    clear hcellR hcR hcp hdy hoy hye hrb hoki r0 hlab hV hM
    have hoa := outlR_app xs (candP xs rd i) i x
    rw [HLAB.out, ← HME.out, HOT.out, Bool.true_and] at hoa
    have HOA := Lib.hid hoa
    clear hoa
    obtain ⟨GE, hGE⟩ : ∃ GE, GE = decide (y.l.dk ≥ (nd : Int)) := ⟨_, rfl⟩
    have HGE := Lib.hid hGE
    have HIX : Hid (V = true → (!GE) = true → 0 ≤ y.l.dk ∧ y.l.dk < nd) := by
      refine Lib.hid fun h1 h2 => ?_
      rw [HVE.out] at h1
      have h3 := valid_dk (of_decide_eq_true h1)
      rw [hGE] at h2
      simp at h2
      omega
    clear hGE
    refine wp_seq_k (fun KA hKA => ?_)
    refine wp_seq_k (fun KA2 hKA2 => ?_)
    refine Lin.begin ?_
    refine Lin.take 9 rfl rfl (by go_simp <;> with_reducible rfl) (by simp only [Act.put, List.setIfInBounds_toArray, List.set_cons_zero, List.set_cons_succ] <;> rfl) ?_
    refine Lin.take 10 rfl rfl (by go_simp <;> with_reducible rfl) (by simp only [Act.put, List.setIfInBounds_toArray, List.set_cons_zero, List.set_cons_succ] <;> rfl) ?_
    refine Lin.take 11 rfl rfl (by go_simp <;> with_reducible rfl) (by simp only [Act.put, List.setIfInBounds_toArray, List.set_cons_zero, List.set_cons_succ] <;> rfl) ?_
    refine Lin.take 12 (v := .bool true) rfl rfl (by have h1 := hiI; go_simp <;> with_reducible rfl) (by simp only [Act.put, List.setIfInBounds_toArray, List.set_cons_zero, List.set_cons_succ] <;> rfl) ?_
    refine Lin.done (hKA2 _ _ ?_)
    refine wp_cond_true rfl ?_
    refine wp_skip ?_
    refine hKA _ _ ?_
    clear hKA hKA2 KA KA2
    refine wp_seq_k (fun KC hKC => ?_)
    refine wp_block ?_
    refine wp_seq_k (fun KD hKD => ?_)
    refine Lin.begin ?_
    refine Lin.take 15 rfl rfl (by go_simp <;> with_reducible rfl) (by simp only [Act.put, List.setIfInBounds_toArray, List.set_cons_zero, List.set_cons_succ] <;> rfl) ?_
    refine Lin.take 16 rfl rfl (by go_simp <;> with_reducible rfl) (by simp only [Act.put, List.setIfInBounds_toArray, List.set_cons_zero, List.set_cons_succ] <;> rfl) ?_
    refine Lin.take 17 (v := .pointer (some ⟨bL, oL + i * 19, none⟩)) rfl rfl (by have h1 := hiI; have h2 := hi0; have h3 := hcapL; go_simp <;> with_reducible rfl) (by simp only [Act.put, List.setIfInBounds_toArray, List.set_cons_zero, List.set_cons_succ] <;> rfl) ?_
    refine Lin.mid 18 true 32 _ bL (oL + i * 19) y.arr.toList _ (by kernel_rfl) rfl rfl (fun _ => rfl) RI.out Try.underlying32 rfl (by kernel_rfl) (by simp only [Act.put, List.setIfInBounds_toArray, List.set_cons_zero, List.set_cons_succ] <;> rfl) ?_
    refine Lin.takeW 8 rfl rfl (by go_simp; exact ⟨rfl, rfl⟩) (by simp only [Act.put, List.setIfInBounds_toArray, List.set_cons_zero, List.set_cons_succ] <;> rfl) ?_
    intro z1 hz1
    obtain ⟨q, hq⟩ : ∃ q, q = wr.heap.size := ⟨_, rfl⟩
    rw [← hq]
    have hrow1 : z1.heap[q]? = some (.cells (lbz.arrv none 0 0) 32 (0, 0)) := by rw [hz1, hq]; exact heap_alloc_new _ _
    have hb1 : Below wr.heap.size wr z1 := by rw [hz1]; exact (Below.refl _ _).alloc (Nat.le_refl _) _
    have hzs1 : z1.heap.size = q + 1 := by rw [hz1, hq]; simp
    have HQ := Lib.hid hq
    clear hz1 hq
    refine W_store_row 32 q y.arr 32 (lbz.arrv none 0 0) rfl rfl hrow1 (by kernel_rfl) rfl (arrv_one _ _ _ _) ?_
    simp only [Act.put]
    obtain ⟨z2, hz2⟩ : ∃ y0, y0 = z1.setRow q y.arr := ⟨_, rfl⟩
    rw [← hz2]
    have HL2 : Hid (LbAt y.l y.ad y.nd y.c q z2) := by rw [hz2]; exact Lib.hid (LbAt.of (setRow_at hrow1))
    have HB2 : Hid (Below wr.heap.size wr z2) := by rw [hz2]; exact Lib.hid (below_setRow hb1 (by have := HQ.out; omega) _)
    have hzs2 : z2.heap.size = q + 1 := by rw [hz2]; simpa using hzs1
    clear hz2 hb1 hrow1
    refine Lin.done (hKD _ _ ?_)
    clear hKD KD
    refine wp_seq_k (fun KD hKD => ?_)
    refine Lin.begin ?_
    refine Lin.take 19 rfl rfl (by go_simp <;> with_reducible rfl) (by simp only [Act.put, List.setIfInBounds_toArray, List.set_cons_zero, List.set_cons_succ] <;> rfl) ?_
    refine Lin.take 20 rfl rfl (by go_simp <;> with_reducible rfl) (by simp only [Act.put, List.setIfInBounds_toArray, List.set_cons_zero, List.set_cons_succ] <;> rfl) ?_
    refine Lin.take 21 (v := .pointer (some ⟨bR, oR + i, none⟩)) rfl rfl (by have h1 := hiI; have h2 := hi0; have h3 := hcapR; go_simp <;> with_reducible rfl) (by simp only [Act.put, List.setIfInBounds_toArray, List.set_cons_zero, List.set_cons_succ] <;> rfl) ?_
    refine Lin.take 22 (v := .bool rb) rfl rfl (by have hc := CR.out _ HB2.out; go_simp <;> with_reducible rfl) (by simp only [Act.put, List.setIfInBounds_toArray, List.set_cons_zero, List.set_cons_succ] <;> rfl) ?_
    refine Lin.bool 23 rfl rfl (by go_simp <;> with_reducible rfl) ?_
    intro B23 hB23 aa ha; simp only [Act.put, List.setIfInBounds_toArray, List.set_cons_zero, List.set_cons_succ] at ha; subst ha; replace hB23 := Lib.hid hB23
    refine Lin.mid 24 B23 32 _ q 0 y.arr.toList _ (by cases B23 <;> kernel_rfl) rfl rfl (fun hc => by (try simp only [hc, gv_true]); rfl) HL2.out.range Try.underlying32 rfl (by kernel_rfl) (by simp only [Act.put, List.setIfInBounds_toArray, List.set_cons_zero, List.set_cons_succ] <;> rfl) ?_
    refine Lin.mayEnter 25 B23 (v := .bool V) (S := Below z2.heap.size z2) (by cases B23 <;> kernel_rfl) rfl (by intro hc; (try simp only [hc, gv_true]); go_simp <;> (first | exact ⟨rfl, rfl⟩ | rfl)) (fun hc => HV.out _ HB2.out) (fun _ => Below.refl _ _) (by simp only [Act.put, List.setIfInBounds_toArray, List.set_cons_zero, List.set_cons_succ] <;> rfl) ?_
    intro z3 hb3
    have HB3 := Lib.hid (HB2.out.trans (hb3.mono (by have := HQ.out; omega)))
    have hzs3 : q + 1 ≤ z3.heap.size := by have := hb3.size; omega
    have HL3 := Lib.hid (HL2.out.below hb3 (by omega))
    have LX3 := Lib.hid (LX.out.below HB3.out hgr)
    clear hb3
    refine Lin.and 26 23 25 rfl rfl rfl rfl rfl ?_
    intro B26 hB26 aa ha; simp only [Act.put, List.setIfInBounds_toArray, List.set_cons_zero, List.set_cons_succ] at ha; subst ha; replace hB26 := Lib.hid hB26
    refine Lin.take 27 rfl rfl (by go_simp <;> with_reducible rfl) (by simp only [Act.put, List.setIfInBounds_toArray, List.set_cons_zero, List.set_cons_succ] <;> rfl) ?_
    refine Lin.may 28 B26 (by cases B26 <;> kernel_rfl) rfl (by intro hc; (try simp only [hc, gv_true]); go_simp <;> with_reducible rfl) (by simp only [Act.put, List.setIfInBounds_toArray, List.set_cons_zero, List.set_cons_succ] <;> rfl) ?_
    refine Lin.may 29 B26 (by cases B26 <;> kernel_rfl) rfl (by intro hc; (try simp only [hc, gv_true]); obtain ⟨k0, k1, k2, k3, k4, k5, k6, k7, k8, k9, k10, k11, k12, k13, k14, k15, k16, k17, k18⟩ := HL3.out; go_simp <;> with_reducible rfl) (by simp only [Act.put, List.setIfInBounds_toArray, List.set_cons_zero, List.set_cons_succ] <;> rfl) ?_
    refine Lin.may 30 B26 (by cases B26 <;> kernel_rfl) rfl (by intro hc; (try simp only [hc, gv_true]); go_simp <;> with_reducible rfl) (by simp only [Act.put, List.setIfInBounds_toArray, List.set_cons_zero, List.set_cons_succ] <;> rfl) ?_
    refine Lin.may 31 B26 (by cases B26 <;> kernel_rfl) rfl (by intro hc; (try simp only [hc, gv_true]); obtain ⟨k0, k1, k2, k3, k4, k5, k6, k7, k8, k9, k10, k11, k12, k13, k14, k15, k16, k17, k18⟩ := LX3.out; go_simp <;> with_reducible rfl) (by simp only [Act.put, List.setIfInBounds_toArray, List.set_cons_zero, List.set_cons_succ] <;> rfl) ?_
    refine Lin.may 32 B26 (v := .bool (decide (y.l.gen = x.gen))) (by cases B26 <;> kernel_rfl) rfl (by intro hc; (try simp only [hc, gv_true]); go_simp <;> rfl) (by simp only [Act.put, List.setIfInBounds_toArray, List.set_cons_zero, List.set_cons_succ] <;> rfl) ?_
    refine Lin.and 33 27 32 rfl rfl rfl rfl rfl ?_
    intro B33 hB33 aa ha; simp only [Act.put, List.setIfInBounds_toArray, List.set_cons_zero, List.set_cons_succ] at ha; subst ha; replace hB33 := Lib.hid hB33
    refine Lin.take 34 rfl rfl (by go_simp <;> with_reducible rfl) (by simp only [Act.put, List.setIfInBounds_toArray, List.set_cons_zero, List.set_cons_succ] <;> rfl) ?_
    refine Lin.mid 35 B33 32 _ q 0 y.arr.toList _ (by cases B33 <;> kernel_rfl) rfl rfl (fun hc => by (try simp only [hc, gv_true]); rfl) HL3.out.range Try.underlying32 rfl (by kernel_rfl) (by simp only [Act.put, List.setIfInBounds_toArray, List.set_cons_zero, List.set_cons_succ] <;> rfl) ?_
    refine Lin.mid 36 B33 32 _ g 0 (x.arrv ad nd cx).toList _ (by cases B33 <;> kernel_rfl) rfl rfl (fun hc => by (try simp only [hc, gv_true]); rfl) LX3.out.range Try.underlying32 rfl (by kernel_rfl) (by simp only [Act.put, List.setIfInBounds_toArray, List.set_cons_zero, List.set_cons_succ] <;> rfl) ?_
    refine Lin.mayEnter 37 B33 (v := .bool M) (S := Below z3.heap.size z3) (by cases B33 <;> kernel_rfl) rfl (by intro hc; (try simp only [hc, gv_true]); go_simp <;> (first | exact ⟨rfl, rfl⟩ | rfl)) (fun hc => HM.out _ HB3.out) (fun _ => Below.refl _ _) (by simp only [Act.put, List.setIfInBounds_toArray, List.set_cons_zero, List.set_cons_succ] <;> rfl) ?_
    intro z4 hb4
    have HB4 := Lib.hid (HB3.out.trans (hb4.mono (by have := HQ.out; omega)))
    have HL4 := Lib.hid (HL3.out.below hb4 (by omega))
    have LX4 := Lib.hid (LX.out.below HB4.out hgr)
    clear hb4
    refine Lin.may 38 B33 (v := .bool (!M)) (by cases B33 <;> kernel_rfl) rfl (by intro hc; (try simp only [hc, gv_true]); go_simp <;> with_reducible rfl) (by simp only [Act.put, List.setIfInBounds_toArray, List.set_cons_zero, List.set_cons_succ] <;> rfl) ?_
    refine Lin.and 39 34 38 rfl rfl rfl rfl rfl ?_
    intro B39 hB39 aa ha; simp only [Act.put, List.setIfInBounds_toArray, List.set_cons_zero, List.set_cons_succ] at ha; subst ha; replace hB39 := Lib.hid hB39
    refine Lin.take 40 rfl rfl (by go_simp <;> with_reducible rfl) (by simp only [Act.put, List.setIfInBounds_toArray, List.set_cons_zero, List.set_cons_succ] <;> rfl) ?_
    refine Lin.may 41 B39 (by cases B39 <;> kernel_rfl) rfl (by intro hc; (try simp only [hc, gv_true]); go_simp <;> with_reducible rfl) (by simp only [Act.put, List.setIfInBounds_toArray, List.set_cons_zero, List.set_cons_succ] <;> rfl) ?_
    refine Lin.may 42 B39 (by cases B39 <;> kernel_rfl) rfl (by intro hc; (try simp only [hc, gv_true]); obtain ⟨k0, k1, k2, k3, k4, k5, k6, k7, k8, k9, k10, k11, k12, k13, k14, k15, k16, k17, k18⟩ := HL4.out; go_simp <;> with_reducible rfl) (by simp only [Act.put, List.setIfInBounds_toArray, List.set_cons_zero, List.set_cons_succ] <;> rfl) ?_
    refine Lin.may 43 B39 (by cases B39 <;> kernel_rfl) rfl (by intro hc; (try simp only [hc, gv_true]); go_simp <;> with_reducible rfl) (by simp only [Act.put, List.setIfInBounds_toArray, List.set_cons_zero, List.set_cons_succ] <;> rfl) ?_
    refine Lin.may 44 B39 (by cases B39 <;> kernel_rfl) rfl (by intro hc; (try simp only [hc, gv_true]); obtain ⟨k0, k1, k2, k3, k4, k5, k6, k7, k8, k9, k10, k11, k12, k13, k14, k15, k16, k17, k18⟩ := LX4.out; go_simp <;> with_reducible rfl) (by simp only [Act.put, List.setIfInBounds_toArray, List.set_cons_zero, List.set_cons_succ] <;> rfl) ?_
    refine Lin.may 45 B39 (by cases B39 <;> kernel_rfl) rfl (by intro hc; (try simp only [hc, gv_true]); go_simp <;> with_reducible rfl) (by simp only [Act.put, List.setIfInBounds_toArray, List.set_cons_zero, List.set_cons_succ] <;> rfl) ?_
    refine Lin.may 46 B39 (v := .bool GE) (by cases B39 <;> kernel_rfl) rfl (by intro hc; (try simp only [hc, gv_true]); rw [HGE.out]; go_simp <;> rfl) (by simp only [Act.put, List.setIfInBounds_toArray, List.set_cons_zero, List.set_cons_succ] <;> rfl) ?_
    refine Lin.may 47 B39 (v := .bool GE) (by cases B39 <;> kernel_rfl) rfl (by intro hc; (try simp only [hc, gv_true]); go_simp <;> with_reducible rfl) (by simp only [Act.put, List.setIfInBounds_toArray, List.set_cons_zero, List.set_cons_succ] <;> rfl) ?_
    refine Lin.may 48 (B39 && !GE) (by cases B39 <;> cases GE <;> kernel_rfl) rfl (by intro hc; (try simp only [hc, gv_true]); go_simp <;> with_reducible rfl) (by simp only [Act.put, List.setIfInBounds_toArray, List.set_cons_zero, List.set_cons_succ] <;> rfl) ?_
    refine Lin.may 49 (B39 && !GE) (by cases B39 <;> cases GE <;> kernel_rfl) rfl (by intro hc; (try simp only [hc, gv_true]); obtain ⟨k0, k1, k2, k3, k4, k5, k6, k7, k8, k9, k10, k11, k12, k13, k14, k15, k16, k17, k18⟩ := LX4.out; go_simp <;> with_reducible rfl) (by simp only [Act.put, List.setIfInBounds_toArray, List.set_cons_zero, List.set_cons_succ] <;> rfl) ?_
    refine Lin.may 50 (B39 && !GE) (by cases B39 <;> cases GE <;> kernel_rfl) rfl (by intro hc; (try simp only [hc, gv_true]); go_simp <;> with_reducible rfl) (by simp only [Act.put, List.setIfInBounds_toArray, List.set_cons_zero, List.set_cons_succ] <;> rfl) ?_
    refine Lin.may 51 (B39 && !GE) (by cases B39 <;> cases GE <;> kernel_rfl) rfl (by intro hc; (try simp only [hc, gv_true]); obtain ⟨k0, k1, k2, k3, k4, k5, k6, k7, k8, k9, k10, k11, k12, k13, k14, k15, k16, k17, k18⟩ := HL4.out; go_simp <;> with_reducible rfl) (by simp only [Act.put, List.setIfInBounds_toArray, List.set_cons_zero, List.set_cons_succ] <;> rfl) ?_
    refine Lin.may 52 (B39 && !GE) (v := ixv ad y.l.dk) (by cases B39 <;> cases GE <;> kernel_rfl) rfl (by intro hc; (try simp only [hc, gv_true]); obtain ⟨hx0, hx1⟩ := HIX.out (by rw [hB39.out, hB33.out, hB26.out] at hc; simp only [Bool.and_eq_true] at hc; exact hc.1.1.1.2) (by simp only [Bool.and_eq_true] at hc; exact hc.2); have hn := HXL.out; obtain ⟨b1, o1, hae, hcell⟩ := (HDX.out.below HB4.out).at (k := y.l.dk.toNat) (by rw [bb_length]; omega); rw [hae]; have hcap := HXC.out; simp only [ixv]; clear hn hcell; go_simp <;> (intros; omega)) (by simp only [Act.put, List.setIfInBounds_toArray, List.set_cons_zero, List.set_cons_succ] <;> rfl) ?_
    refine Lin.may 53 (B39 && !GE) (v := .bool (inDead x.dead y.l.dk)) (by cases B39 <;> cases GE <;> kernel_rfl) rfl (by intro hc; (try simp only [hc, gv_true]); obtain ⟨hx0, hx1⟩ := HIX.out (by rw [hB39.out, hB33.out, hB26.out] at hc; simp only [Bool.and_eq_true] at hc; exact hc.1.1.1.2) (by simp only [Bool.and_eq_true] at hc; exact hc.2); have hn := HXL.out; obtain ⟨b1, o1, hae, hcell⟩ := (HDX.out.below HB4.out).at (k := y.l.dk.toNat) (by rw [bb_length]; omega); rw [hae]; have hk := hcell y.l.dk.toNat (by rw [bb_length]; omega); simp only [ixv]; simp only [bb, List.getElem_map] at hk; rw [inDead_get (by omega : y.l.dk.toNat < x.dead.length)]; clear hcell; go_simp) (by simp only [Act.put, List.setIfInBounds_toArray, List.set_cons_zero, List.set_cons_succ] <;> rfl) ?_
    refine Lin.may 54 (B39 && !GE) (v := .bool (!inDead x.dead y.l.dk)) (by cases B39 <;> cases GE <;> kernel_rfl) rfl (by intro hc; (try simp only [hc, gv_true]); go_simp <;> with_reducible rfl) (by simp only [Act.put, List.setIfInBounds_toArray, List.set_cons_zero, List.set_cons_succ] <;> rfl) ?_
    refine Lin.may 55 (B39) (v := .bool (GE || !inDead x.dead y.l.dk)) (by cases B39 <;> kernel_rfl) rfl (by intro hc; (try simp only [hc, gv_true, Bool.true_and]); cases GE <;> (simp only [gv_true, gv_false, Bool.not_true, Bool.not_false]; go_simp)) (by simp only [Act.put, List.setIfInBounds_toArray, List.set_cons_zero, List.set_cons_succ] <;> rfl) ?_
    refine Lin.and 56 40 55 rfl rfl rfl rfl rfl ?_
    intro B56 hB56 aa ha; simp only [Act.put, List.setIfInBounds_toArray, List.set_cons_zero, List.set_cons_succ] at ha; subst ha; replace hB56 := Lib.hid hB56
    refine Lin.done (hKD _ _ ?_)
    clear hKD KD
    have hval : B56 = (rb && V && decide (y.l.gen = x.gen) && !M && (GE || !inDead x.dead y.l.dk)) := by rw [hB56.out, hB39.out, hB33.out, hB26.out, hB23.out]
    have hge : V = true → GE = true → inDead x.dead y.l.dk = false := by
      intro h1 h2
      rw [HGE.out] at h2
      unfold inDead
      rw [List.getElem?_eq_none (by have := HXL.out; simp at h2; omega)]
      simp
    have HGE2 := Lib.hid hge
    clear hge
    refine wp_cond_split rfl (fun ht => ?_) (fun hf => ?_)
    · have hout : outlR xs (candL xs rd) x = false := by
        have hm : ∀ k ∈ candP xs rd (i + 1), k ∈ candL xs rd := by rw [candL_P]; exact candP_mono (by omega)
        refine outlR_false hm ?_
        rw [hval] at ht
        have h1 := HCP.out
        have h2 := HGE2.out
        have h3 := HOA.out
        clear hval
        simp only [Bool.and_eq_true] at ht
        obtain ⟨⟨⟨⟨t1, t2⟩, t3⟩, t4⟩, t5⟩ := ht
        rw [h1, t1, t2, Bool.and_self, if_pos rfl, h3, t3]
        have hM0 : M = false := by simpa using t4
        rw [hM0]
        have hI : inDead x.dead y.l.dk = false := by
          cases hG : GE with
          | true => exact h2 t2 hG
          | false => rw [hG] at t5; simpa using t5
        rw [hI]
        rfl
      have HOUT := Lib.hid hout
      clear ht hval hout hB56 hB39 hB33 hB26 hB23
      go_wp2
      go_ret
      rw [HOUT.out]
      exact ⟨rfl, HB1.out.trans ((HBW.out.trans (HB4.out.mono HBW.out.size)).mono HB1.out.size)⟩
    · have hout : outlR xs (candP xs rd (i + 1)) x = true := by
        rw [hval] at hf
        have h1 := HCP.out
        have h2 := HGE2.out
        have h3 := HOA.out
        clear hval
        rw [h1]
        cases hrv : (rb && V) with
        | false => simpa using HOT.out
        | true =>
          rw [hrv, Bool.true_and] at hf
          rw [if_pos rfl, h3]
          have hV1 : V = true := by simp only [Bool.and_eq_true] at hrv; exact hrv.2
          cases hG : GE with
          | true =>
            rw [hG] at hf
            have := h2 hV1 hG
            rw [this]
            revert hf
            cases decide (y.l.gen = x.gen) <;> cases M <;> simp
          | false =>
            rw [hG] at hf
            revert hf
            cases decide (y.l.gen = x.gen) <;> cases M <;> cases inDead x.dead y.l.dk <;> simp
      have HOUT := Lib.hid hout
      clear hf hval hout hB56 hB39 hB33 hB26 hB23
      refine wp_skip ?_
      (try simp only [Exit.inBlock, Exit.then])
      refine hKC _ _ ?_
      go_wp2
      go_roundw
      case rel => exact ⟨i + 1, by go_num, by omega, HOUT, Lib.hid (HBW.out.trans (HB4.out.mono HBW.out.size))⟩
      case measure => simp [intOf]; omega
  · have hiI : ¬ (i : Int) < n := by omega
    obtain rfl : n = i := by omega
    go_wp2
    go_ret
    have h1 := HOT.out
    rw [← HLX.out, ← candL_P] at h1
    rw [h1]
    exact ⟨rfl, HB1.out.trans (HBW.out.mono HB1.out.size)⟩

set_option maxRecDepth 100000 in
set_option maxHeartbeats 3200000 in
theorem better_any (xs : List LL) (a : Option Addr) (n c : Nat) (rd : List Bool) (ar : Option Addr) (cr : Nat) (x : Lb) (ad : Option Addr) (nd cx : Nat) (y : Lb) (ay : Option Addr) (ny cy : Nat) (w : World) (hX : Lbs w a n c xs) (hR : Sl w 1 ar n cr (bb rd)) (hx : Sl w 1 ad nd cx (bb x.dead)) (hy : Sl w 1 ay ny cy (bb y.dead)) (hok : ∀ x ∈ xs, x.l.ok) (hxs : x.dead.length ≤ 1000000) (hys : y.dead.length ≤ 1000000) (hn6 : n ≤ 500) :
    Calls Try.prog 26 #[.slice a n c, .slice ar n cr, .agg (x.arrv ad nd cx), .agg (y.arrv ay ny cy)] w fun e w' => e = .returned (.bool (betterR xs (candL xs rd) x y)) ∧ Below w.heap.size w w' := by
  obtain ⟨OX, hox⟩ : ∃ O, O = outlR xs (candL xs rd) x := ⟨_, rfl⟩
  obtain ⟨OY, hoy⟩ : ∃ O, O = outlR xs (candL xs rd) y := ⟨_, rfl⟩
  obtain ⟨vx, hvx⟩ : ∃ v, v = votesN xs (candL xs rd) x := ⟨_, rfl⟩
  obtain ⟨vy, hvy⟩ : ∃ v, v = votesN xs (candL xs rd) y := ⟨_, rfl⟩
  obtain ⟨lx, hlx⟩ : ∃ v, v = lowN xs (candL xs rd) x := ⟨_, rfl⟩
  obtain ⟨ly, hly⟩ : ∃ v, v = lowN xs (candL xs rd) y := ⟨_, rfl⟩
  have hbt : betterR xs (candL xs rd) x y = if OX ≠ OY then OX else decide (vx > vy) || (decide (vx = vy) && decide (lx < ly)) := by
    rw [hox, hoy, hvx, hvy, hlx, hly]
    rfl
  rw [hbt]
  have HOX9 := Lib.hid hox
  have HOY9 := Lib.hid hoy
  have HOK := Lib.hid hok
  have HVX9 := Lib.hid (And.intro hvx hlx)
  have HVY9 := Lib.hid (And.intro hvy hly)
  clear hbt hok hox hoy hvx hvy hlx hly
  unfold Lb.arrv
  go_enter Try.func26, Try.ntmps26
  refine wp_seq_k (fun K0 hK0 => ?_)
  refine Lin.begin ?_
  refine Lin.takeW 6 rfl rfl (by go_simp; exact ⟨rfl, rfl⟩) (by simp only [Act.put, List.setIfInBounds_toArray, List.set_cons_zero, List.set_cons_succ] <;> rfl) ?_
  intro w1 hw1
  obtain ⟨g, hg⟩ : ∃ g, g = w.heap.size := ⟨_, rfl⟩
  rw [← hg]
  have L1 : LbAt x ad nd cx g w1 := by rw [hw1, hg]; exact LbAt.new x ad nd cx 32 w
  have hb1 : Below w.heap.size w w1 := by rw [hw1]; exact (Below.refl _ _).alloc (Nat.le_refl _) _
  have hsz1 : w1.heap.size = g + 1 := by rw [hw1, hg]; simp
  have HS1 := Lib.hid hsz1
  have HG := Lib.hid hg
  clear hw1 hsz1 hg
  refine Lin.takeW 7 rfl rfl (by go_simp; exact ⟨rfl, rfl⟩) (by simp only [Act.put, List.setIfInBounds_toArray, List.set_cons_zero, List.set_cons_succ] <;> rfl) ?_
  intro w2 hw2
  obtain ⟨g2, hg2⟩ : ∃ g2, g2 = w1.heap.size := ⟨_, rfl⟩
  rw [← hg2]
  have hb2 : Below w1.heap.size w1 w2 := by rw [hw2]; exact (Below.refl _ _).alloc (Nat.le_refl _) _
  have HM2 : Hid (LbAt y ay ny cy g2 w2) := by rw [hw2, hg2]; exact Lib.hid (LbAt.new y ay ny cy 32 w1)
  have HL2 := Lib.hid (L1.below hb2 (by have := HS1.out; omega))
  have hsz2 : w2.heap.size = g + 2 := by rw [hw2]; have := HS1.out; simp; omega
  have HBB := Lib.hid (hb1.trans (hb2.mono hb1.size))
  have HX := Lib.hid (hX.below HBB.out)
  have HRD := Lib.hid (hR.below HBB.out)
  have HDX := Lib.hid (hx.below HBB.out)
  have HDY := Lib.hid (hy.below HBB.out)
  have hgr : g < w2.heap.size := by omega
  have hgr2 : g2 < w2.heap.size := by have := HS1.out; omega
  clear hw2 hg2 hb1 hb2 hX hR hx hy L1 hsz2
  refine Lin.take 8 rfl rfl (by go_simp <;> with_reducible rfl) (by simp only [Act.put, List.setIfInBounds_toArray, List.set_cons_zero, List.set_cons_succ] <;> rfl) ?_
  refine Lin.done (hK0 _ _ ?_)
  clear hK0 K0
  have HOX : Hid (∀ z, Below w2.heap.size w2 z → Calls Try.prog 35 #[.slice a n c, .slice ar n cr, .agg (x.arrv ad nd cx).toList.toArray] z fun e w' => e = .returned (.bool OX) ∧ Below z.heap.size z w') := by
    rw [HOX9.out]
    exact Lib.hid fun z hz => refOutlives_any xs a n c rd ar cr x ad nd cx z (HX.out.below hz) (HRD.out.below hz) (HDX.out.below hz) HOK.out hxs hn6
  have HOY : Hid (∀ z, Below w2.heap.size w2 z → Calls Try.prog 35 #[.slice a n c, .slice ar n cr, .agg (y.arrv ay ny cy).toList.toArray] z fun e w' => e = .returned (.bool OY) ∧ Below z.heap.size z w') := by
    rw [HOY9.out]
    exact Lib.hid fun z hz => refOutlives_any xs a n c rd ar cr y ay ny cy z (HX.out.below hz) (HRD.out.below hz) (HDY.out.below hz) HOK.out hys hn6
  have HVX : Hid (∀ z, Below w2.heap.size w2 z → Calls Try.prog 36 #[.slice a n c, .slice ar n cr, .agg (x.arrv ad nd cx).toList.toArray] z fun e w' => e = .returned (.tuple #[.int .i64 (vx : Int), .int .i64 lx]) ∧ Below z.heap.size z w') := by
    rw [HVX9.out.1, HVX9.out.2]
    exact Lib.hid fun z hz => votes_any xs a n c rd ar cr x ad nd cx z (HX.out.below hz) (HRD.out.below hz) (HDX.out.below hz) HOK.out hn6
  have HVY : Hid (∀ z, Below w2.heap.size w2 z → Calls Try.prog 36 #[.slice a n c, .slice ar n cr, .agg (y.arrv ay ny cy).toList.toArray] z fun e w' => e = .returned (.tuple #[.int .i64 (vy : Int), .int .i64 ly]) ∧ Below z.heap.size z w') := by
    rw [HVY9.out.1, HVY9.out.2]
    exact Lib.hid fun z hz => votes_any xs a n c rd ar cr y ay ny cy z (HX.out.below hz) (HRD.out.below hz) (HDY.out.below hz) HOK.out hn6
  refine wp_seq_k (fun K0 hK0 => ?_)
  have hKK := Lib.hid hK0
  clear hK0
  have HB := Lib.hid (show Below w2.heap.size w2 w2.drew from (Below.refl _ _).drew)
  have hs : w2.heap.size ≤ w2.drew.heap.size := Nat.le_refl _
  refine Rest.begin 10 (by kernel_rfl) (by kernel_rfl) ?_
  refine Rest.take 0 15 rfl (by kernel_rfl) (by kernel_rfl) (by kernel_rfl) (fun _ _ _ h => h) (by rfl) (by rfl) (by intro x hx; go_simp <;> with_reducible rfl) (by simp only [Act.put, List.setIfInBounds_toArray, List.set_cons_zero, List.set_cons_succ] <;> rfl) ?_
  refine Rest.take 1 16 rfl (by kernel_rfl) (by kernel_rfl) (by kernel_rfl) (fun _ _ _ h => h) (by rfl) (by rfl) (by intro x hx; go_simp <;> with_reducible rfl) (by simp only [Act.put, List.setIfInBounds_toArray, List.set_cons_zero, List.set_cons_succ] <;> rfl) ?_
  refine Rest.takeMid 2 17 rfl (by kernel_rfl) (by kernel_rfl) (by kernel_rfl) 32 _ g 0 (x.arrv ad nd cx).toList _ (fun _ _ _ h => h) (by rfl) rfl rfl (fun z hz => rangeAt_below HL2.out.range (later HB hs hz) hgr) Try.underlying32 rfl (by kernel_rfl) rfl (by simp only [Act.put, List.setIfInBounds_toArray, List.set_cons_zero, List.set_cons_succ] <;> rfl) ?_
  refine Rest.take 4 19 rfl (by kernel_rfl) (by kernel_rfl) (by kernel_rfl) (fun _ _ _ h => h) (by rfl) (by rfl) (by intro x hx; go_simp <;> with_reducible rfl) (by simp only [Act.put, List.setIfInBounds_toArray, List.set_cons_zero, List.set_cons_succ] <;> rfl) ?_
  refine Rest.take 5 20 rfl (by kernel_rfl) (by kernel_rfl) (by kernel_rfl) (fun _ _ _ h => h) (by rfl) (by rfl) (by intro x hx; go_simp <;> with_reducible rfl) (by simp only [Act.put, List.setIfInBounds_toArray, List.set_cons_zero, List.set_cons_succ] <;> rfl) ?_
  refine Rest.takeMid 6 21 rfl (by kernel_rfl) (by kernel_rfl) (by kernel_rfl) 32 _ g2 0 (y.arrv ay ny cy).toList _ (fun _ _ _ h => h) (by rfl) rfl rfl (fun z hz => rangeAt_below HM2.out.range (later HB hs hz) hgr2) Try.underlying32 rfl (by kernel_rfl) rfl (by simp only [Act.put, List.setIfInBounds_toArray, List.set_cons_zero, List.set_cons_succ] <;> rfl) ?_
  refine Rest.step 3 rfl (by kernel_rfl) (by rfl) (fun K hK => ?_)
  go_simp
  go_at_call 35
  refine (HOX.out _ HB.out).mono ?_
  rintro e wn ⟨rfl, hb⟩
  refine hK.out _ _ hb ?_
  clear hK K
  have HB := Lib.hid (HB.out.trans (hb.mono hs))
  have hs := Nat.le_trans hs hb.size
  clear hb
  refine Rest.step 7 rfl (by kernel_rfl) (by rfl) (fun K hK => ?_)
  go_simp
  go_at_call 35
  refine (HOY.out _ HB.out).mono ?_
  rintro e wn ⟨rfl, hb⟩
  refine hK.out _ _ hb ?_
  clear hK K
  have HB := Lib.hid (HB.out.trans (hb.mono hs))
  have hs := Nat.le_trans hs hb.size
  clear hb
  refine Rest.take 8 9 rfl (by kernel_rfl) (by kernel_rfl) (by kernel_rfl) (fun _ _ _ h => h) (by rfl) (by rfl) (by intro x hx; go_simp <;> with_reducible rfl) (by simp only [Act.put, List.setIfInBounds_toArray, List.set_cons_zero, List.set_cons_succ] <;> rfl) ?_
  refine Rest.take 9 10 rfl (by kernel_rfl) (by kernel_rfl) (by kernel_rfl) (fun _ _ _ h => h) (by rfl) (by rfl) (by intro x hx; go_simp <;> with_reducible rfl) (by simp only [Act.put, List.setIfInBounds_toArray, List.set_cons_zero, List.set_cons_succ] <;> rfl) ?_
  refine Rest.done (by kernel_rfl) ?_
  refine hKK.out _ _ ?_
  clear hKK K0
  by_cases hO : OX = OY
  · subst hO
    rw [if_neg (by simp)]
    refine wp_seq_k (fun KA hKA => ?_)
    refine wp_seq_k (fun KB hKB => ?_)
    refine Lin.begin ?_
    refine Lin.take 23 rfl rfl (by go_simp <;> with_reducible rfl) (by simp only [Act.put, List.setIfInBounds_toArray, List.set_cons_zero, List.set_cons_succ] <;> rfl) ?_
    refine Lin.take 24 rfl rfl (by go_simp <;> with_reducible rfl) (by simp only [Act.put, List.setIfInBounds_toArray, List.set_cons_zero, List.set_cons_succ] <;> rfl) ?_
    refine Lin.take 25 (v := .bool false) rfl rfl (by go_simp <;> with_reducible rfl) (by simp only [Act.put, List.setIfInBounds_toArray, List.set_cons_zero, List.set_cons_succ] <;> rfl) ?_
    refine Lin.done (hKB _ _ ?_)
    refine wp_cond_false rfl ?_
    refine wp_skip ?_
    refine hKA _ _ ?_
    clear hKA hKB KA KB
    refine wp_seq_k (fun KD hKD => ?_)
    refine Lin.begin ?_
    refine Lin.take 28 rfl rfl (by go_simp <;> with_reducible rfl) (by simp only [Act.put, List.setIfInBounds_toArray, List.set_cons_zero, List.set_cons_succ] <;> rfl) ?_
    refine Lin.take 29 rfl rfl (by go_simp <;> with_reducible rfl) (by simp only [Act.put, List.setIfInBounds_toArray, List.set_cons_zero, List.set_cons_succ] <;> rfl) ?_
    refine Lin.mid 30 true 32 _ g 0 (x.arrv ad nd cx).toList _ (by kernel_rfl) rfl rfl (fun _ => rfl) (HL2.out.below HB.out hgr).range Try.underlying32 rfl (by kernel_rfl) (by simp only [Act.put, List.setIfInBounds_toArray, List.set_cons_zero, List.set_cons_succ] <;> rfl) ?_
    refine Lin.enter 31 rfl rfl (by simp only [gv_true]; go_simp <;> (first | exact ⟨rfl, rfl⟩ | rfl)) (HVX.out _ HB.out) (by simp only [Act.put, List.setIfInBounds_toArray, List.set_cons_zero, List.set_cons_succ] <;> rfl) ?_
    intro wv hbv
    have HBn := Lib.hid (HB.out.trans (hbv.mono HB.out.size))
    clear hbv
    refine Lin.take 27 rfl rfl (by go_simp <;> with_reducible rfl) (by simp only [Act.put, List.setIfInBounds_toArray, List.set_cons_zero, List.set_cons_succ] <;> rfl) ?_
    refine Lin.take 32 rfl rfl (by go_simp <;> with_reducible rfl) (by simp only [Act.put, List.setIfInBounds_toArray, List.set_cons_zero, List.set_cons_succ] <;> rfl) ?_
    refine Lin.take 33 rfl rfl (by go_simp <;> with_reducible rfl) (by simp only [Act.put, List.setIfInBounds_toArray, List.set_cons_zero, List.set_cons_succ] <;> rfl) ?_
    refine Lin.take 11 rfl rfl (by go_simp <;> with_reducible rfl) (by simp only [Act.put, List.setIfInBounds_toArray, List.set_cons_zero, List.set_cons_succ] <;> rfl) ?_
    refine Lin.take 12 rfl rfl (by go_simp <;> with_reducible rfl) (by simp only [Act.put, List.setIfInBounds_toArray, List.set_cons_zero, List.set_cons_succ] <;> rfl) ?_
    refine Lin.done (hKD _ _ ?_)
    clear hKD KD
    refine wp_seq_k (fun KD hKD => ?_)
    refine Lin.begin ?_
    refine Lin.take 35 rfl rfl (by go_simp <;> with_reducible rfl) (by simp only [Act.put, List.setIfInBounds_toArray, List.set_cons_zero, List.set_cons_succ] <;> rfl) ?_
    refine Lin.take 36 rfl rfl (by go_simp <;> with_reducible rfl) (by simp only [Act.put, List.setIfInBounds_toArray, List.set_cons_zero, List.set_cons_succ] <;> rfl) ?_
    refine Lin.mid 37 true 32 _ g2 0 (y.arrv ay ny cy).toList _ (by kernel_rfl) rfl rfl (fun _ => rfl) (HM2.out.below HBn.out hgr2).range Try.underlying32 rfl (by kernel_rfl) (by simp only [Act.put, List.setIfInBounds_toArray, List.set_cons_zero, List.set_cons_succ] <;> rfl) ?_
    refine Lin.enter 38 rfl rfl (by simp only [gv_true]; go_simp <;> (first | exact ⟨rfl, rfl⟩ | rfl)) (HVY.out _ HBn.out) (by simp only [Act.put, List.setIfInBounds_toArray, List.set_cons_zero, List.set_cons_succ] <;> rfl) ?_
    intro wvn hbv
    have HBnn := Lib.hid (HBn.out.trans (hbv.mono HBn.out.size))
    clear hbv
    refine Lin.take 34 rfl rfl (by go_simp <;> with_reducible rfl) (by simp only [Act.put, List.setIfInBounds_toArray, List.set_cons_zero, List.set_cons_succ] <;> rfl) ?_
    refine Lin.take 39 rfl rfl (by go_simp <;> with_reducible rfl) (by simp only [Act.put, List.setIfInBounds_toArray, List.set_cons_zero, List.set_cons_succ] <;> rfl) ?_
    refine Lin.take 40 rfl rfl (by go_simp <;> with_reducible rfl) (by simp only [Act.put, List.setIfInBounds_toArray, List.set_cons_zero, List.set_cons_succ] <;> rfl) ?_
    refine Lin.take 13 rfl rfl (by go_simp <;> with_reducible rfl) (by simp only [Act.put, List.setIfInBounds_toArray, List.set_cons_zero, List.set_cons_succ] <;> rfl) ?_
    refine Lin.take 14 rfl rfl (by go_simp <;> with_reducible rfl) (by simp only [Act.put, List.setIfInBounds_toArray, List.set_cons_zero, List.set_cons_succ] <;> rfl) ?_
    refine Lin.done (hKD _ _ ?_)
    clear hKD KD
    by_cases h1 : vx > vy
    · have h1I : (vx : Int) > vy := by omega
      go_wp2
      go_ret
      exact ⟨by simp [h1], HBB.out.trans (HBnn.out.mono HBB.out.size)⟩
    · have h1I : ¬ (vx : Int) > vy := by omega
      by_cases h2 : vx = vy
      · subst h2
        by_cases h3 : lx < ly
        all_goals
          go_wp2
          go_ret
          exact ⟨by simp [h3], HBB.out.trans (HBnn.out.mono HBB.out.size)⟩
      · have h2I : ¬ (vx : Int) = vy := by omega
        go_wp2
        go_ret
        exact ⟨by simp [h1, h2], HBB.out.trans (HBnn.out.mono HBB.out.size)⟩
  · rw [if_pos hO]
    refine wp_seq_k (fun KA hKA => ?_)
    refine wp_seq_k (fun KB hKB => ?_)
    refine Lin.begin ?_
    refine Lin.take 23 rfl rfl (by go_simp <;> with_reducible rfl) (by simp only [Act.put, List.setIfInBounds_toArray, List.set_cons_zero, List.set_cons_succ] <;> rfl) ?_
    refine Lin.take 24 rfl rfl (by go_simp <;> with_reducible rfl) (by simp only [Act.put, List.setIfInBounds_toArray, List.set_cons_zero, List.set_cons_succ] <;> rfl) ?_
    refine Lin.take 25 (v := .bool true) rfl rfl (by cases OX <;> cases OY <;> simp at hO <;> go_simp <;> rfl) (by simp only [Act.put, List.setIfInBounds_toArray, List.set_cons_zero, List.set_cons_succ] <;> rfl) ?_
    refine Lin.done (hKB _ _ ?_)
    refine wp_cond_true rfl ?_
    clear hKA hKB KB
    go_wp2
    go_ret
    exact ⟨rfl, HBB.out.trans (HB.out.mono HBB.out.size)⟩

end Go.Proofs.Ytgpfjinkmagelaa
