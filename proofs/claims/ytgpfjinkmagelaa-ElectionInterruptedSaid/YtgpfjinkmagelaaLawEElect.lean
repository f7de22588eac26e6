/- ElectionElect: for every list of labels the law returns true. (Printed by el12.py.) -/
import Derived.Test.YtgpfjinkmagelaaElL
import Derived.Test.YtgpfjinkmagelaaMay
import Derived.Test.YtgpfjinkmagelaaReadL
set_option linter.unusedVariables false
set_option linter.unusedSimpArgs false
namespace Go.Proofs.Ytgpfjinkmagelaa
open Go Go.RowKit Go.Lib

/-- Elect, with the results named. -/
theorem ElRes.named {xs : List LL} {rd : List Bool} {f : FuncId} {args : Array Value} {w : World} {le : Lb} {zs : List Int} {er : Int} (h1 : le = (electL xs rd).1) (h2 : zs = (electL xs rd).2.1) (h3 : er = (electL xs rd).2.2)
    (h : Calls Try.prog f args w fun e w' => ElRes xs rd e w w') : Calls Try.prog f args w fun e w' => ∃ r : (Option Addr × Nat × Nat) × (Option Addr × Nat × Nat), e = .returned (.tuple #[.agg (le.arrv r.1.1 r.1.2.1 r.1.2.2), .slice r.2.1 r.2.2.1 r.2.2.2, .int .i64 er]) ∧ Sl w' 1 r.1.1 r.1.2.1 r.1.2.2 (bb le.dead) ∧ Sl w' 1 r.2.1 r.2.2.1 r.2.2.2 (zc zs) ∧ Below w.heap.size w w' := by
  refine h.mono ?_
  rintro e w' ⟨ad, nd, cd, az, nz, cz, he, ha, hb, hc⟩
  subst h1 h2 h3
  exact ⟨((ad, nd, cd), (az, nz, cz)), he, ha, hb, hc⟩
/-- What is elected is short. -/
theorem electL_short {xs : List LL} {rd : List Bool} {k : Nat} (h : ∀ x ∈ xs, x.l.dead.length ≤ k) : (electL xs rd).1.dead.length ≤ k := by
  have hl : ∀ i, (lab xs i).dead.length ≤ k := by
    intro i
    by_cases hi : i < xs.length
    · rw [lab_lt hi]; exact h _ (List.getElem_mem hi)
    · unfold lab
      rw [List.getElem?_eq_none (by omega)]
      exact Nat.zero_le _
  unfold electL
  split
  · exact Nat.zero_le _
  · split
    · exact Nat.zero_le _
    · split
      · exact Nat.zero_le _
      · exact hl _
theorem electL_places {xs : List LL} {rd : List Bool} : (electL xs rd).2.1.length ≤ 100000 := by
  unfold electL
  split
  · exact Nat.zero_le _
  · split
    · exact Nat.zero_le _
    · split
      · exact Nat.zero_le _
      · rename_i h _
        rw [atL_length xs _ _ _ rfl]
        have hv : ∀ i ∈ candL xs rd, (lab xs i).valid := fun i hi => (candL_mem hi).2
        have hm := chooseL_mem (xs := xs) (candL_nodup xs rd) h (fun i hi => (valid_dk (hv i hi)).2.2.2.2.2.1)
        have := valid_dk (hv _ hm)
        omega

set_option maxRecDepth 100000 in
set_option maxHeartbeats 1600000 in
theorem electionElect_walk (a : Option Addr) (n c : Nat) (xs : List LL) (ar : Option Addr) (nr cr : Nat) (rd : List Bool) (w : World) (h : Lbs w a n c xs) (hnum : ∀ x ∈ xs, x.l.num) (hr : Sl w 1 ar nr cr (bb rd)) :
    Calls Try.prog 3 #[.slice a n c, .slice ar nr cr] w fun e w' => e = .returned (.bool true) ∧ Below w.heap.size w w' := by
  have HX := Lib.hid h
  have HR := Lib.hid hr
  have HNUM := Lib.hid hnum
  have HLN := Lib.hid h.len
  have hcm : n ≤ 9223372036854775807 := by have h1 := h.sl.cap; have h2 := h.sl.max; unfold maxLen at h2; omega
  have hndm : ∀ x ∈ xs, x.nd ≤ 9223372036854775807 := fun x hx => by have h1 := (h.dead x hx).cap; have h2 := (h.dead x hx).max; unfold maxLen at h2; omega
  have hndl : ∀ x ∈ xs, x.l.dead.length = x.nd := fun x hx => by have := (h.dead x hx).len; rw [bb_length] at this; omega
  have HNDM := Lib.hid hndm
  have HNDL := Lib.hid hndl
  obtain ⟨BL, hBL⟩ : ∃ B, B = (decide (70 < n) || xs.any fun x => decide (100 < x.nd)) := ⟨_, rfl⟩
  have HBL := Lib.hid hBL
  clear h hr hnum hndm hndl hBL
  go_enter Try.func3, Try.ntmps3
  refine wp_seq_k (fun K hK => ?_)
  refine Lin.begin ?_
  refine Lin.take 4 rfl rfl (by go_simp <;> with_reducible rfl) (by simp only [Act.put, List.setIfInBounds_toArray, List.set_cons_zero, List.set_cons_succ] <;> rfl) ?_
  refine Lin.done (hK _ _ ?_)
  clear hK K
  refine wp_seq_k (fun K1 hK1 => ?_)
  refine wp_seq_k (fun K hK => ?_)
  refine Lin.begin ?_
  refine Lin.enter 11 rfl rfl (by go_simp <;> (first | exact ⟨rfl, rfl⟩ | rfl)) (awake31_any w) (by simp only [Act.put, List.setIfInBounds_toArray, List.set_cons_zero, List.set_cons_succ] <;> rfl) ?_
  intro w1 hb1
  have HB1 := Lib.hid hb1
  clear hb1
  refine Lin.take 12 rfl rfl (by go_simp <;> with_reducible rfl) (by simp only [Act.put, List.setIfInBounds_toArray, List.set_cons_zero, List.set_cons_succ] <;> rfl) ?_
  refine Lin.done (hK _ _ ?_)
  refine wp_cond_false rfl ?_
  refine wp_skip ?_
  refine hK1 _ _ ?_
  clear hK1 K1 hK K
  have HX1 := Lib.hid (HX.out.below HB1.out)
  have HR1 := Lib.hid (HR.out.below HB1.out)
  have HLG : Hid (Calls Try.prog 10 #[.slice a n c] w1 fun e w' => e = .returned (.bool BL) ∧ Below w1.heap.size w1 w') := by rw [HBL.out]; exact Lib.hid (large_any xs a n c w1 HX1.out hcm HNDM.out)
  refine wp_seq_k (fun K1 hK1 => ?_)
  refine wp_seq_k (fun K hK => ?_)
  refine Lin.begin ?_
  refine Lin.take 13 rfl rfl (by go_simp <;> with_reducible rfl) (by simp only [Act.put, List.setIfInBounds_toArray, List.set_cons_zero, List.set_cons_succ] <;> rfl) ?_
  refine Lin.enter 14 rfl rfl (by go_simp <;> (first | exact ⟨rfl, rfl⟩ | rfl)) (v := .bool BL) HLG.out (by simp only [Act.put, List.setIfInBounds_toArray, List.set_cons_zero, List.set_cons_succ] <;> rfl) ?_
  intro w2 hb2
  have HB2 := Lib.hid (HB1.out.trans (hb2.mono HB1.out.size)); have HX2 := Lib.hid (HX1.out.below hb2); have HR2 := Lib.hid (HR1.out.below hb2)
  clear hb2
  refine Lin.bool 15 (x := BL) rfl rfl (by go_simp <;> with_reducible rfl) ?_
  intro B15 hB15 aa ha; simp only [Act.put, List.setIfInBounds_toArray, List.set_cons_zero, List.set_cons_succ] at ha; subst ha
  refine Lin.may 16 (!B15) (by cases B15 <;> kernel_rfl) rfl (by intro hc; (try simp only [hc, gv_true]); go_simp <;> with_reducible rfl) (by simp only [Act.put, List.setIfInBounds_toArray, List.set_cons_zero, List.set_cons_succ] <;> rfl) ?_
  refine Lin.may 17 (!B15) (by cases B15 <;> kernel_rfl) rfl (by intro hc; (try simp only [hc, gv_true]); go_simp <;> with_reducible rfl) (by simp only [Act.put, List.setIfInBounds_toArray, List.set_cons_zero, List.set_cons_succ] <;> rfl) ?_
  refine Lin.may 18 (!B15) (v := .bool (decide ((nr : Int) > 100))) (by cases B15 <;> kernel_rfl) rfl (by intro hc; (try simp only [hc, gv_true]); go_simp <;> rfl) (by simp only [Act.put, List.setIfInBounds_toArray, List.set_cons_zero, List.set_cons_succ] <;> rfl) ?_
  refine Lin.or 19 15 18 rfl rfl rfl rfl rfl ?_
  intro B19 hB19 aa ha; simp only [Act.put, List.setIfInBounds_toArray, List.set_cons_zero, List.set_cons_succ] at ha; subst ha; replace hB19 := Lib.hid hB19
  refine Lin.done (hK _ _ ?_)
  refine wp_cond_split rfl (fun ht => ?_) (fun hf => ?_)
  ·
    refine wp_seq_k (fun KE hKE => ?_)
    refine Lin.begin ?_
    refine Lin.take 4 (v := .bool true) rfl rfl (by go_simp <;> with_reducible rfl) (by simp only [Act.put, List.setIfInBounds_toArray, List.set_cons_zero, List.set_cons_succ] <;> rfl) ?_
    refine Lin.done (hKE _ _ ?_)
    refine wp_ret ?_
    (try simp only [Exit.then])
    refine bodyPost_ret (results_tmp rfl _ _ _) rfl ?_
    exact ⟨rfl, HB2.out⟩
  have hsm : n ≤ 70 ∧ (∀ x ∈ xs, x.nd ≤ 100) := by
    have h1 : B15 = false := by
      cases h9 : B15 with
      | false => rfl
      | true => rw [hB19.out, h9] at hf; simp at hf
    rw [hB15, HBL.out] at h1
    simp only [Bool.or_eq_false_iff, decide_eq_false_iff_not, List.any_eq_false, decide_eq_true_eq] at h1
    exact ⟨by omega, fun x hx => by have := h1.2 x hx; omega⟩
  obtain ⟨hn70, hsm2⟩ := hsm
  have HOK : Hid (∀ x ∈ xs, x.l.ok) := Lib.hid fun x hx => (HNUM.out x hx).ok (by have h1 := HNDL.out x hx; have h2 := hsm2 x hx; omega)
  have HSHORT : Hid (∀ x ∈ xs, x.l.dead.length ≤ 100) := Lib.hid fun x hx => by have h1 := HNDL.out x hx; have h2 := hsm2 x hx; omega
  clear hf hB15 hB19 hsm2
  generalize gv _ _ = u0
  refine wp_skip ?_
  refine hK1 _ _ ?_
  clear hK1 K1 hK K
  obtain ⟨le, hle⟩ : ∃ le, le = (electL xs rd).1 := ⟨_, rfl⟩
  obtain ⟨zs, hzs⟩ : ∃ zs, zs = (electL xs rd).2.1 := ⟨_, rfl⟩
  obtain ⟨er, her⟩ : ∃ er, er = (electL xs rd).2.2 := ⟨_, rfl⟩
  have hsh : le.dead.length ≤ 100 := by rw [hle]; exact electL_short HSHORT.out
  have hzl : zs.length ≤ 100000 := by rw [hzs]; exact electL_places
  have HEL1 := Lib.hid (ElRes.named hle hzs her (elect_any xs a n c rd ar nr cr w2 HX2.out HR2.out HOK.out (by omega)))
  have HEL2' := Lib.hid fun z (hz : Below w2.heap.size w2 z) => ElRes.named hle hzs her (refElect_any xs a n c rd ar nr cr z (HX2.out.below hz) (HR2.out.below hz) HOK.out (by omega))
  have HSI : Hid (∀ (z : World) {az nz cz bz mz dz}, Sl z 1 az nz cz (zc zs) → Sl z 1 bz mz dz (zc zs) → Calls Try.prog 14 #[.slice az nz cz, .slice bz mz dz] z fun e w' => e = .returned (.bool true) ∧ Below z.heap.size z w') := Lib.hid fun z {az nz cz bz mz dz} h1 h2 => (sameInts_any zs zs az bz nz mz cz dz z h1 h2 (by omega)).mono fun e w' h => ⟨by rw [h.1, decide_eq_true rfl], h.2⟩
  clear hle hzs her
  refine wp_seq_k (fun K hK => ?_)
  refine Lin.begin ?_
  refine Lin.take 21 rfl rfl (by go_simp <;> with_reducible rfl) (by simp only [Act.put, List.setIfInBounds_toArray, List.set_cons_zero, List.set_cons_succ] <;> rfl) ?_
  refine Lin.take 22 rfl rfl (by go_simp <;> with_reducible rfl) (by simp only [Act.put, List.setIfInBounds_toArray, List.set_cons_zero, List.set_cons_succ] <;> rfl) ?_
  refine Lin.enterX (fun r : (Option Addr × Nat × Nat) × (Option Addr × Nat × Nat) => .tuple #[.agg (le.arrv r.1.1 r.1.2.1 r.1.2.2), .slice r.2.1 r.2.2.1 r.2.2.2, .int .i64 er]) 23 rfl rfl (by go_simp <;> (first | exact ⟨rfl, rfl⟩ | rfl)) HEL1.out ?_
  rintro ⟨⟨ae1, ne1, ce1⟩, ⟨az1, nz1, cz1⟩⟩ wb1 ⟨hse, hsz, hb⟩ aa ha; simp only [Act.put, List.setIfInBounds_toArray, List.set_cons_zero, List.set_cons_succ] at ha; subst ha
  have hwb := hb.size
  have HBb1 := Lib.hid (HB2.out.trans (hb.mono HB2.out.size)); have HEb1 : Hid (Sl wb1 1 ae1 ne1 ce1 (bb le.dead)) := Lib.hid hse; have HZb1 : Hid (Sl wb1 1 az1 nz1 cz1 (zc zs)) := Lib.hid hsz
  have hbb1 := hb
  clear hse hsz hb
  refine Lin.take 20 rfl rfl (by go_simp <;> with_reducible rfl) (by simp only [Act.put, List.setIfInBounds_toArray, List.set_cons_zero, List.set_cons_succ] <;> rfl) ?_
  refine Lin.take 24 rfl rfl (by go_simp <;> with_reducible rfl) (by simp only [Act.put, List.setIfInBounds_toArray, List.set_cons_zero, List.set_cons_succ] <;> rfl) ?_
  refine Lin.take 25 rfl rfl (by go_simp <;> with_reducible rfl) (by simp only [Act.put, List.setIfInBounds_toArray, List.set_cons_zero, List.set_cons_succ] <;> rfl) ?_
  refine Lin.take 26 rfl rfl (by go_simp <;> with_reducible rfl) (by simp only [Act.put, List.setIfInBounds_toArray, List.set_cons_zero, List.set_cons_succ] <;> rfl) ?_
  refine Lin.takeW 5 rfl rfl (by go_simp; exact ⟨rfl, rfl⟩) (by simp only [Act.put, List.setIfInBounds_toArray, List.set_cons_zero, List.set_cons_succ] <;> rfl) ?_
  intro wc hwc
  obtain ⟨q1, hq⟩ : ∃ q, q = wb1.heap.size := ⟨_, rfl⟩
  rw [← hq]
  have hrow9 : wc.heap[q1]? = some (.cells (lbz.arrv none 0 0) 32 (0, 0)) := by rw [hwc, hq]; exact heap_alloc_new _ _
  have hb9 : Below wb1.heap.size wb1 wc := by rw [hwc]; exact (Below.refl _ _).alloc (Nat.le_refl _) _
  have HQ := Lib.hid hq
  have hcz : wc.heap.size = q1 + 1 := by rw [hwc, hq]; simp
  clear hwc hq
  refine W_store_row 32 q1 (le.arrv ae1 ne1 ce1) 32 (lbz.arrv none 0 0) rfl rfl hrow9 (by kernel_rfl) rfl (arrv_one _ _ _ _) ?_
  simp only [Act.put]
  obtain ⟨w5, hwd⟩ : ∃ y, y = wc.setRow q1 (le.arrv ae1 ne1 ce1) := ⟨_, rfl⟩
  rw [← hwd]
  have HLw5 : Hid (LbAt le ae1 ne1 ce1 q1 w5) := by rw [hwd]; exact Lib.hid (LbAt.of (setRow_at hrow9))
  have hbd : Below wb1.heap.size wb1 w5 := by rw [hwd]; exact below_setRow hb9 (by have := HQ.out; omega) _
  have HBw5 := Lib.hid (HBb1.out.trans (hbd.mono HBb1.out.size)); have HEw5 := Lib.hid (HEb1.out.below hbd); have HZw5 := Lib.hid (HZb1.out.below hbd); have hqw5 : q1 < w5.heap.size := by (have h9 : w5.heap.size = wc.heap.size := (by rw [hwd]; simp)); omega
  have hbd1 := hbb1.trans (hbd.mono hwb)
  clear hwd hrow9 hb9 hbd hwb hcz hbb1 HEb1 HZb1 HQ
  refine Lin.take 6 rfl rfl (by go_simp <;> with_reducible rfl) (by simp only [Act.put, List.setIfInBounds_toArray, List.set_cons_zero, List.set_cons_succ] <;> rfl) ?_
  refine Lin.take 7 rfl rfl (by go_simp <;> with_reducible rfl) (by simp only [Act.put, List.setIfInBounds_toArray, List.set_cons_zero, List.set_cons_succ] <;> rfl) ?_
  refine Lin.done (hK _ _ ?_)
  clear hK K
  have HEL2 := Lib.hid (HEL2'.out w5 hbd1)
  refine wp_seq_k (fun K hK => ?_)
  refine Lin.begin ?_
  refine Lin.take 28 rfl rfl (by go_simp <;> with_reducible rfl) (by simp only [Act.put, List.setIfInBounds_toArray, List.set_cons_zero, List.set_cons_succ] <;> rfl) ?_
  refine Lin.take 29 rfl rfl (by go_simp <;> with_reducible rfl) (by simp only [Act.put, List.setIfInBounds_toArray, List.set_cons_zero, List.set_cons_succ] <;> rfl) ?_
  refine Lin.enterX (fun r : (Option Addr × Nat × Nat) × (Option Addr × Nat × Nat) => .tuple #[.agg (le.arrv r.1.1 r.1.2.1 r.1.2.2), .slice r.2.1 r.2.2.1 r.2.2.2, .int .i64 er]) 30 rfl rfl (by go_simp <;> (first | exact ⟨rfl, rfl⟩ | rfl)) HEL2.out ?_
  rintro ⟨⟨ae2, ne2, ce2⟩, ⟨az2, nz2, cz2⟩⟩ wb2 ⟨hse, hsz, hb⟩ aa ha; simp only [Act.put, List.setIfInBounds_toArray, List.set_cons_zero, List.set_cons_succ] at ha; subst ha
  have hwb := hb.size
  have HBb2 := Lib.hid (HBw5.out.trans (hb.mono HBw5.out.size)); have HEb2 : Hid (Sl wb2 1 ae2 ne2 ce2 (bb le.dead)) := Lib.hid hse; have HZb2 : Hid (Sl wb2 1 az2 nz2 cz2 (zc zs)) := Lib.hid hsz
  have hbb2 := hb
  clear hse hsz hb
  refine Lin.take 27 rfl rfl (by go_simp <;> with_reducible rfl) (by simp only [Act.put, List.setIfInBounds_toArray, List.set_cons_zero, List.set_cons_succ] <;> rfl) ?_
  refine Lin.take 31 rfl rfl (by go_simp <;> with_reducible rfl) (by simp only [Act.put, List.setIfInBounds_toArray, List.set_cons_zero, List.set_cons_succ] <;> rfl) ?_
  refine Lin.take 32 rfl rfl (by go_simp <;> with_reducible rfl) (by simp only [Act.put, List.setIfInBounds_toArray, List.set_cons_zero, List.set_cons_succ] <;> rfl) ?_
  refine Lin.take 33 rfl rfl (by go_simp <;> with_reducible rfl) (by simp only [Act.put, List.setIfInBounds_toArray, List.set_cons_zero, List.set_cons_succ] <;> rfl) ?_
  refine Lin.takeW 8 rfl rfl (by go_simp; exact ⟨rfl, rfl⟩) (by simp only [Act.put, List.setIfInBounds_toArray, List.set_cons_zero, List.set_cons_succ] <;> rfl) ?_
  intro wc hwc
  obtain ⟨q2, hq⟩ : ∃ q, q = wb2.heap.size := ⟨_, rfl⟩
  rw [← hq]
  have hrow9 : wc.heap[q2]? = some (.cells (lbz.arrv none 0 0) 32 (0, 0)) := by rw [hwc, hq]; exact heap_alloc_new _ _
  have hb9 : Below wb2.heap.size wb2 wc := by rw [hwc]; exact (Below.refl _ _).alloc (Nat.le_refl _) _
  have HQ := Lib.hid hq
  have hcz : wc.heap.size = q2 + 1 := by rw [hwc, hq]; simp
  clear hwc hq
  refine W_store_row 32 q2 (le.arrv ae2 ne2 ce2) 32 (lbz.arrv none 0 0) rfl rfl hrow9 (by kernel_rfl) rfl (arrv_one _ _ _ _) ?_
  simp only [Act.put]
  obtain ⟨w6, hwd⟩ : ∃ y, y = wc.setRow q2 (le.arrv ae2 ne2 ce2) := ⟨_, rfl⟩
  rw [← hwd]
  have HLw6 : Hid (LbAt le ae2 ne2 ce2 q2 w6) := by rw [hwd]; exact Lib.hid (LbAt.of (setRow_at hrow9))
  have hbd : Below wb2.heap.size wb2 w6 := by rw [hwd]; exact below_setRow hb9 (by have := HQ.out; omega) _
  have HBw6 := Lib.hid (HBb2.out.trans (hbd.mono HBb2.out.size)); have HEw6 := Lib.hid (HEb2.out.below hbd); have HZw6 := Lib.hid (HZb2.out.below hbd); have hqw6 : q2 < w6.heap.size := by (have h9 : w6.heap.size = wc.heap.size := (by rw [hwd]; simp)); omega
  have hbd2 := hbb2.trans (hbd.mono hwb)
  clear hwd hrow9 hb9 hbd hwb hcz hbb2 HEb2 HZb2 HQ
  refine Lin.take 9 rfl rfl (by go_simp <;> with_reducible rfl) (by simp only [Act.put, List.setIfInBounds_toArray, List.set_cons_zero, List.set_cons_succ] <;> rfl) ?_
  refine Lin.take 10 rfl rfl (by go_simp <;> with_reducible rfl) (by simp only [Act.put, List.setIfInBounds_toArray, List.set_cons_zero, List.set_cons_succ] <;> rfl) ?_
  refine Lin.done (hK _ _ ?_)
  clear hK K
  have HSM : Hid (Calls Try.prog 13 #[.agg (le.arrv ae1 ne1 ce1).toList.toArray, .agg (le.arrv ae2 ne2 ce2).toList.toArray] w6 fun e w' => e = .returned (.bool true) ∧ Below w6.heap.size w6 w') := by
    refine Lib.hid ((sameL_any le ae1 ne1 ce1 le ae2 ne2 ce2 w6 (HEw5.out.below hbd2) HEw6.out (by omega)).mono fun e w' h => ⟨?_, h.2⟩)
    rw [h.1, decide_eq_true rfl, decide_eq_true (Lb.equal.rfl' le)]
    rfl
  refine wp_seq_k (fun K hK => ?_)
  refine Lin.begin ?_
  refine Lin.take 34 rfl rfl (by go_simp <;> with_reducible rfl) (by simp only [Act.put, List.setIfInBounds_toArray, List.set_cons_zero, List.set_cons_succ] <;> rfl) ?_
  refine Lin.take 35 rfl rfl (by go_simp <;> with_reducible rfl) (by simp only [Act.put, List.setIfInBounds_toArray, List.set_cons_zero, List.set_cons_succ] <;> rfl) ?_
  refine Lin.take 36 rfl rfl (by go_simp <;> with_reducible rfl) (by simp only [Act.put, List.setIfInBounds_toArray, List.set_cons_zero, List.set_cons_succ] <;> rfl) ?_
  refine Lin.bool 37 (x := true) rfl rfl (by go_simp <;> (first | with_reducible rfl | simp)) ?_
  intro B37 hB37 aa ha; simp only [Act.put, List.setIfInBounds_toArray, List.set_cons_zero, List.set_cons_succ] at ha; subst ha
  subst hB37
  refine Lin.mid 38 true 32 _ q1 0 (le.arrv ae1 ne1 ce1).toList _ (by kernel_rfl) rfl rfl (fun _ => rfl) (HLw5.out.below hbd2 hqw5).range Try.underlying32 rfl (by kernel_rfl) (by simp only [Act.put, List.setIfInBounds_toArray, List.set_cons_zero, List.set_cons_succ] <;> rfl) ?_
  refine Lin.mid 39 true 32 _ q2 0 (le.arrv ae2 ne2 ce2).toList _ (by kernel_rfl) rfl rfl (fun _ => rfl) HLw6.out.range Try.underlying32 rfl (by kernel_rfl) (by simp only [Act.put, List.setIfInBounds_toArray, List.set_cons_zero, List.set_cons_succ] <;> rfl) ?_
  refine Lin.mayEnter 40 true (v := .bool true) (S := Below w6.heap.size w6) (by kernel_rfl) rfl (by intro hc; simp only [gv_true]; go_simp <;> (first | exact ⟨rfl, rfl⟩ | rfl)) (fun hc => HSM.out) (fun _ => Below.refl _ _) (by simp only [Act.put, List.setIfInBounds_toArray, List.set_cons_zero, List.set_cons_succ] <;> rfl) ?_
  intro w7 hb7
  have HB7 := Lib.hid (HBw6.out.trans (hb7.mono HBw6.out.size)); have HZ7 := Lib.hid ((HZw5.out.below hbd2).below hb7); have HY7 := Lib.hid (HZw6.out.below hb7)
  clear hb7
  refine Lin.take 41 (v := .bool true) rfl rfl (by simp only [gv_true]; go_simp <;> with_reducible rfl) (by simp only [Act.put, List.setIfInBounds_toArray, List.set_cons_zero, List.set_cons_succ] <;> rfl) ?_
  refine Lin.bool 42 (x := true) rfl rfl (by go_simp <;> with_reducible rfl) ?_
  intro B42 hB42 aa ha; simp only [Act.put, List.setIfInBounds_toArray, List.set_cons_zero, List.set_cons_succ] at ha; subst ha
  subst hB42
  refine Lin.may 43 true (v := .slice az1 nz1 cz1) (by kernel_rfl) rfl (by intro hc; go_simp <;> with_reducible rfl) (by simp only [Act.put, List.setIfInBounds_toArray, List.set_cons_zero, List.set_cons_succ] <;> rfl) ?_
  refine Lin.may 44 true (v := .slice az2 nz2 cz2) (by kernel_rfl) rfl (by intro hc; go_simp <;> with_reducible rfl) (by simp only [Act.put, List.setIfInBounds_toArray, List.set_cons_zero, List.set_cons_succ] <;> rfl) ?_
  refine Lin.mayEnter 45 true (v := .bool true) (S := Below w7.heap.size w7) (by kernel_rfl) rfl (by intro hc; simp only [gv_true]; go_simp <;> (first | exact ⟨rfl, rfl⟩ | rfl)) (fun hc => HSI.out _ HZ7.out HY7.out) (fun _ => Below.refl _ _) (by simp only [Act.put, List.setIfInBounds_toArray, List.set_cons_zero, List.set_cons_succ] <;> rfl) ?_
  intro w8 hb8
  have HB8 := Lib.hid (HB7.out.trans (hb8.mono HB7.out.size))
  clear hb8
  refine Lin.take 46 (v := .bool true) rfl rfl (by simp only [gv_true]; go_simp <;> with_reducible rfl) (by simp only [Act.put, List.setIfInBounds_toArray, List.set_cons_zero, List.set_cons_succ] <;> rfl) ?_
  refine Lin.take 4 rfl rfl (by go_simp <;> with_reducible rfl) (by simp only [Act.put, List.setIfInBounds_toArray, List.set_cons_zero, List.set_cons_succ] <;> rfl) ?_
  refine Lin.done (hK _ _ ?_)
  refine wp_ret ?_
  (try simp only [Exit.then])
  refine bodyPost_ret (results_tmp rfl _ _ _) rfl ?_
  exact ⟨rfl, HB8.out⟩

end Go.Proofs.Ytgpfjinkmagelaa
