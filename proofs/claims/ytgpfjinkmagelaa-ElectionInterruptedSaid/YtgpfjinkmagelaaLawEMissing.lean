/- ElectionMissing: for every label the law returns true. (Printed by el14.py.) -/
import Derived.Test.YtgpfjinkmagelaaLawEElect
import Derived.Test.YtgpfjinkmagelaaElU
import Derived.Test.YtgpfjinkmagelaaMay
set_option linter.unusedVariables false
set_option linter.unusedSimpArgs false
namespace Go.Proofs.Ytgpfjinkmagelaa
open Go Go.RowKit Go.Lib

theorem info_labelB : (Try.prog.info? 32).map (fun i => (i.zero, i.size, i.bytes)) = some (some (.agg (lbz.arrv none 0 0)), 19, 168) := by kernel_rfl

set_option maxRecDepth 100000 in
set_option maxHeartbeats 3200000 in
theorem electionMissing_walk (l : Lb) (ad : Option Addr) (nd c : Nat) (am : Option Addr) (nm cm : Nat) (ms : List Bool) (w : World) (h : Sl w 1 ad nd c (bb l.dead)) (hnum : l.num) (hm : Sl w 1 am nm cm (bb ms)) :
    Calls Try.prog 7 #[.agg (l.arrv ad nd c), .slice am nm cm] w fun e w' => e = .returned (.bool true) ∧ Below w.heap.size w w' := by
  have HS := Lib.hid h
  have HM := Lib.hid hm
  have HNUM := Lib.hid hnum
  have HNL : Hid (l.dead.length = nd) := by have := h.len; rw [bb_length] at this; exact Lib.hid (by omega)
  have HML : Hid (ms.length = nm) := by have := hm.len; rw [bb_length] at this; exact Lib.hid (by omega)
  obtain ⟨V, hV⟩ : ∃ V, V = decide l.valid := ⟨_, rfl⟩
  have HV := Lib.hid hV
  clear h hm hnum hV
  unfold Lb.arrv
  go_enter Try.func7, Try.ntmps7
  refine wp_seq_k (fun K hK => ?_)
  refine Lin.begin ?_
  refine Lin.takeW 2 rfl rfl (by go_simp; exact ⟨rfl, rfl⟩) (by simp only [Act.put, List.setIfInBounds_toArray, List.set_cons_zero, List.set_cons_succ] <;> rfl) ?_
  intro w0 hw0
  obtain ⟨g, hg⟩ : ∃ g, g = w.heap.size := ⟨_, rfl⟩
  rw [← hg]
  have L0 : Hid (LbAt l ad nd c g w0) := by rw [hw0, hg]; exact Lib.hid (LbAt.new l ad nd c 32 w)
  have HB0 : Hid (Below w.heap.size w w0) := by rw [hw0]; exact Lib.hid ((Below.refl _ _).alloc (Nat.le_refl _) _)
  have hg0 : g < w0.heap.size := by rw [hw0, hg]; simp
  clear hw0 hg
  refine Lin.take 4 rfl rfl (by go_simp <;> with_reducible rfl) (by simp only [Act.put, List.setIfInBounds_toArray, List.set_cons_zero, List.set_cons_succ] <;> rfl) ?_
  refine Lin.done (hK _ _ ?_)
  clear hK K
  refine wp_seq_k (fun K1 hK1 => ?_)
  refine wp_seq_k (fun K hK => ?_)
  refine Lin.begin ?_
  refine Lin.enter 13 rfl rfl (by go_simp <;> (first | exact ⟨rfl, rfl⟩ | rfl)) (awake31_any w0) (by simp only [Act.put, List.setIfInBounds_toArray, List.set_cons_zero, List.set_cons_succ] <;> rfl) ?_
  intro w1 hb1
  have HB1 := Lib.hid (HB0.out.trans (hb1.mono HB0.out.size)); have L1 := Lib.hid (L0.out.below hb1 hg0); have hg1 : g < w1.heap.size := Nat.lt_of_lt_of_le hg0 hb1.size
  clear hb1
  refine Lin.take 14 rfl rfl (by go_simp <;> with_reducible rfl) (by simp only [Act.put, List.setIfInBounds_toArray, List.set_cons_zero, List.set_cons_succ] <;> rfl) ?_
  refine Lin.done (hK _ _ ?_)
  refine wp_cond_false rfl ?_
  refine wp_skip ?_
  refine hK1 _ _ ?_
  clear hK1 K1 hK K
  have HS1 := Lib.hid (HS.out.below HB1.out)
  have HM1 := Lib.hid (HM.out.below HB1.out)
  refine wp_seq_k (fun K1 hK1 => ?_)
  refine wp_seq_k (fun K hK => ?_)
  refine Lin.begin ?_
  refine Lin.take 15 rfl rfl (by go_simp <;> with_reducible rfl) (by simp only [Act.put, List.setIfInBounds_toArray, List.set_cons_zero, List.set_cons_succ] <;> rfl) ?_
  refine Lin.take 16 rfl rfl (by have hk := L1.out.k15; go_simp <;> with_reducible rfl) (by simp only [Act.put, List.setIfInBounds_toArray, List.set_cons_zero, List.set_cons_succ] <;> rfl) ?_
  refine Lin.take 17 rfl rfl (by go_simp <;> with_reducible rfl) (by simp only [Act.put, List.setIfInBounds_toArray, List.set_cons_zero, List.set_cons_succ] <;> rfl) ?_
  refine Lin.take 18 rfl rfl (by go_simp <;> with_reducible rfl) (by simp only [Act.put, List.setIfInBounds_toArray, List.set_cons_zero, List.set_cons_succ] <;> rfl) ?_
  refine Lin.bool 19 rfl rfl (by go_simp <;> with_reducible rfl) ?_
  intro B19 hB19 aa ha; simp only [Act.put, List.setIfInBounds_toArray, List.set_cons_zero, List.set_cons_succ] at ha; subst ha; replace hB19 := Lib.hid hB19
  refine Lin.mid 20 (!B19) 32 _ g 0 (l.arrv ad nd c).toList _ (by cases B19 <;> kernel_rfl) rfl rfl (fun hc => by (try simp only [hc, gv_true]); rfl) L1.out.range Try.underlying32 rfl (by kernel_rfl) (by simp only [Act.put, List.setIfInBounds_toArray, List.set_cons_zero, List.set_cons_succ] <;> rfl) ?_
  refine Lin.mayEnter 21 (!B19) (v := .bool V) (S := Below w1.heap.size w1) (by cases B19 <;> kernel_rfl) rfl (by intro hc; (try simp only [hc, gv_true]); go_simp <;> (first | exact ⟨rfl, rfl⟩ | rfl)) (fun hc => by rw [HV.out]; exact refValid_any l ad nd c w1 HS1.out (HNUM.out.ok (by rw [hB19.out] at hc; simp at hc; have := HNL.out; omega))) (fun _ => Below.refl _ _) (by simp only [Act.put, List.setIfInBounds_toArray, List.set_cons_zero, List.set_cons_succ] <;> rfl) ?_
  intro w2 hb2
  have HB2 := Lib.hid (HB1.out.trans (hb2.mono HB1.out.size)); have L2 := Lib.hid (L1.out.below hb2 hg1); have hg2 : g < w2.heap.size := Nat.lt_of_lt_of_le hg1 hb2.size; have HS2 := Lib.hid (HS1.out.below hb2); have HM2 := Lib.hid (HM1.out.below hb2)
  clear hb2
  refine Lin.may 22 (!B19) (v := .bool (!V)) (by cases B19 <;> kernel_rfl) rfl (by intro hc; (try simp only [hc, gv_true]); go_simp <;> with_reducible rfl) (by simp only [Act.put, List.setIfInBounds_toArray, List.set_cons_zero, List.set_cons_succ] <;> rfl) ?_
  refine Lin.or 23 19 22 rfl rfl rfl rfl rfl ?_
  intro B23 hB23 aa ha; simp only [Act.put, List.setIfInBounds_toArray, List.set_cons_zero, List.set_cons_succ] at ha; subst ha; replace hB23 := Lib.hid hB23
  refine Lin.take 24 rfl rfl (by go_simp <;> with_reducible rfl) (by simp only [Act.put, List.setIfInBounds_toArray, List.set_cons_zero, List.set_cons_succ] <;> rfl) ?_
  refine Lin.may 25 (!B23) (by cases B23 <;> kernel_rfl) rfl (by intro hc; (try simp only [hc, gv_true]); go_simp <;> with_reducible rfl) (by simp only [Act.put, List.setIfInBounds_toArray, List.set_cons_zero, List.set_cons_succ] <;> rfl) ?_
  refine Lin.may 26 (!B23) (by cases B23 <;> kernel_rfl) rfl (by intro hc; (try simp only [hc, gv_true]); go_simp <;> with_reducible rfl) (by simp only [Act.put, List.setIfInBounds_toArray, List.set_cons_zero, List.set_cons_succ] <;> rfl) ?_
  refine Lin.may 27 (!B23) (by cases B23 <;> kernel_rfl) rfl (by intro hc; (try simp only [hc, gv_true]); go_simp <;> with_reducible rfl) (by simp only [Act.put, List.setIfInBounds_toArray, List.set_cons_zero, List.set_cons_succ] <;> rfl) ?_
  refine Lin.may 28 (!B23) (by cases B23 <;> kernel_rfl) rfl (by intro hc; (try simp only [hc, gv_true]); have hk := L2.out.k15; go_simp <;> with_reducible rfl) (by simp only [Act.put, List.setIfInBounds_toArray, List.set_cons_zero, List.set_cons_succ] <;> rfl) ?_
  refine Lin.may 29 (!B23) (by cases B23 <;> kernel_rfl) rfl (by intro hc; (try simp only [hc, gv_true]); go_simp <;> with_reducible rfl) (by simp only [Act.put, List.setIfInBounds_toArray, List.set_cons_zero, List.set_cons_succ] <;> rfl) ?_
  refine Lin.may 30 (!B23) (v := .bool (decide ((nm : Int) < nd))) (by cases B23 <;> kernel_rfl) rfl (by intro hc; (try simp only [hc, gv_true]); go_simp <;> rfl) (by simp only [Act.put, List.setIfInBounds_toArray, List.set_cons_zero, List.set_cons_succ] <;> rfl) ?_
  refine Lin.or 31 24 30 rfl rfl rfl rfl rfl ?_
  intro B31 hB31 aa ha; simp only [Act.put, List.setIfInBounds_toArray, List.set_cons_zero, List.set_cons_succ] at ha; subst ha; replace hB31 := Lib.hid hB31
  refine Lin.done (hK _ _ ?_)
  refine wp_cond_split rfl (fun ht => ?_) (fun hf => ?_)
  ·
    refine wp_seq_k (fun KE hKE => ?_)
    refine Lin.begin ?_
    refine Lin.take 4 (v := .bool true) rfl rfl (by go_simp <;> with_reducible rfl) (by simp only [Act.put, List.setIfInBounds_toArray, List.set_cons_zero, List.set_cons_succ] <;> rfl) ?_
    refine Lin.done (hKE _ _ ?_)
    refine wp_ret ?_
    (try simp only [Exit.then])
    refine bodyPost_ret (results_tmp rfl _ _ _) rfl ?_
    exact ⟨rfl, HB2.out⟩
  have hsm : nd ≤ 60 ∧ l.valid ∧ nd ≤ nm := by
    rw [hB31.out, hB23.out, hB19.out, HV.out] at hf
    simp at hf
    exact ⟨by omega, hf.1.2, by omega⟩
  obtain ⟨hn60, hval, hnm⟩ := hsm
  have HVAL := Lib.hid hval
  clear hf hB31 hB23 hB19 hval
  generalize gv _ _ = u0
  generalize gv _ _ = u1
  generalize gv _ _ = u2
  generalize gv _ _ = u3
  generalize gv _ _ = u4
  generalize gv _ _ = u5
  generalize gv _ _ = u6
  generalize gv _ _ = u7
  generalize gv _ _ = u8
  refine wp_skip ?_
  refine hK1 _ _ ?_
  clear hK1 K1 hK K
  have hcapM := HM2.out.cap
  have hcapD := HS2.out.cap
  refine wp_seq_k (fun K hK => ?_)
  refine Lin.begin ?_
  refine Lin.take 5 rfl rfl (by go_simp <;> with_reducible rfl) (by simp only [Act.put, List.setIfInBounds_toArray, List.set_cons_zero, List.set_cons_succ] <;> rfl) ?_
  refine Lin.done (hK _ _ ?_)
  clear hK K
  refine wp_seq_k (fun K hK => ?_)
  refine Lin.begin ?_
  refine Lin.take 6 rfl rfl (by go_simp <;> with_reducible rfl) (by simp only [Act.put, List.setIfInBounds_toArray, List.set_cons_zero, List.set_cons_succ] <;> rfl) ?_
  refine Lin.done (hK _ _ ?_)
  clear hK K
  refine wp_seq_k (fun K hK => ?_)
  refine Lin.begin ?_
  refine Lin.take 7 rfl rfl (by go_simp <;> with_reducible rfl) (by simp only [Act.put, List.setIfInBounds_toArray, List.set_cons_zero, List.set_cons_succ] <;> rfl) ?_
  refine Lin.done (hK _ _ ?_)
  clear hK K
  refine wp_seq_k (fun KL hKL => ?_)
  have HKL := Lib.hid hKL
  clear hKL
  have hk15 := L2.out.k15
  go_wp2
  clear hk15
  go_loopw [5, 6, 7, 35] (fun lv bv ov iv wr => ∃ (d k : Nat) (a1 : Option Addr) (c1 : Nat) (a2 : Option Addr) (c2 : Nat), iv = .int .i64 (d : Int) ∧ d ≤ nd ∧ lv = .slice a1 d c1 ∧ bv = .slice a2 d c2 ∧ ov = .int .i64 (k : Int) ∧ k ≤ d ∧ Hid (k = misN l ms d) ∧ Hid (wr.ownsRow w2.heap.size 32 19 (.slice a1 d c1) d (lcs (misX l ad nd c d))) ∧ Hid (wr.ownsRow w2.heap.size 4 1 (.slice a2 d c2) d (bb (misR ms d))) ∧ Hid (Below w2.heap.size w2 wr)) (fun _ _ _ iv _ => nd - (intOf iv).toNat)
  case atStart => exact ⟨0, 0, none, 0, none, 0, rfl, by omega, rfl, rfl, rfl, by omega, Lib.hid rfl, Lib.hid (World.ownsRow_nil _ _ _ _), Lib.hid (World.ownsRow_nil _ _ _ _), Lib.hid (Below.refl _ _)⟩
  case round =>
  obtain ⟨d, k, a1, c1, a2, c2, rfl, hdn, rfl, rfl, rfl, hkd, HKN, HOL, HOB, HBW⟩ := hrel
  by_cases hd : d < nd
  · have hdI : (d : Int) < nd := by omega
    have hdM : (d : Int) < nm := by omega
    have hd0 : (0 : Int) ≤ (d : Int) := by omega
    have hdl : d < l.dead.length := by have := HNL.out; omega
    have hml : d < ms.length := by have := HML.out; omega
    obtain ⟨bM, oM, haM, hcellM⟩ := HM2.out.at (k := d) (by rw [bb_length]; exact hml)
    have hcM := hcellM d (by rw [bb_length]; exact hml)
    obtain ⟨bD, oD, haD, hcellD⟩ := HS2.out.at (k := d) (by rw [bb_length]; exact hdl)
    have hcD := hcellD d (by rw [bb_length]; exact hdl)
    simp only [bb, List.getElem_map] at hcM hcD
    have hmb : ms.getD d false = ms[d] := by rw [List.getD_eq_getElem?_getD, List.getElem?_eq_getElem hml]; rfl
    have hdb : l.dead.getD d false = l.dead[d] := by rw [List.getD_eq_getElem?_getD, List.getElem?_eq_getElem hdl]; rfl
    obtain ⟨mb, hmbe⟩ : ∃ mb, mb = ms[d] := ⟨_, rfl⟩
    obtain ⟨db, hdbe⟩ : ∃ db, db = l.dead[d] := ⟨_, rfl⟩
    rw [← hmbe] at hcM hmb
    rw [← hdbe] at hcD hdb
    have CM : Hid (∀ z, Below w2.heap.size w2 z → z.cell? ⟨bM, oM + d, none⟩ = some (.bool mb)) := Lib.hid fun z hz => below_cell hz (World.block_lt_of_cell? w2 _ hcM) hcM
    have CD : Hid (∀ z, Below w2.heap.size w2 z → z.cell? ⟨bD, oD + d, none⟩ = some (.bool db)) := Lib.hid fun z hz => below_cell hz (World.block_lt_of_cell? w2 _ hcD) hcD
    have HMB := Lib.hid hmb
    have hnx := misN_succ l ms d
    rw [hmb, hdb] at hnx
    have HNX := Lib.hid hnx
    subst haM
    have HAD := Lib.hid haD
    clear haD hcellM hcM hcellD hcD hmb hdb hmbe hdbe hnx
    refine wp_seq_k (fun KA hKA => ?_)
    refine Lin.begin ?_
    refine Lin.take 36 (v := .bool true) rfl rfl (by have h1 := hdI; go_simp <;> with_reducible rfl) (by simp only [Act.put, List.setIfInBounds_toArray, List.set_cons_zero, List.set_cons_succ] <;> rfl) ?_
    refine Lin.done (hKA _ _ ?_)
    refine wp_seq_k (fun KB hKB => ?_)
    refine wp_cond_true rfl ?_
    refine wp_skip ?_
    refine hKB _ _ ?_
    clear hKA hKB KA KB
    refine wp_seq_k (fun KC hKC => ?_)
    refine wp_block ?_
    refine wp_seq_k (fun KD hKD => ?_)
    refine Lin.begin ?_
    refine Lin.take 37 rfl rfl (by go_simp <;> with_reducible rfl) (by simp only [Act.put, List.setIfInBounds_toArray, List.set_cons_zero, List.set_cons_succ] <;> rfl) ?_
    refine Lin.take 8 rfl rfl (by go_simp <;> with_reducible rfl) (by simp only [Act.put, List.setIfInBounds_toArray, List.set_cons_zero, List.set_cons_succ] <;> rfl) ?_
    refine Lin.done (hKD _ _ ?_)
    clear hKD KD
    refine wp_seq_k (fun KD hKD => ?_)
    refine Lin.begin ?_
    refine Lin.mid 38 true 32 _ g 0 (l.arrv ad nd c).toList _ (by kernel_rfl) rfl rfl (fun _ => rfl) (L2.out.below HBW.out hg2).range Try.underlying32 rfl (by kernel_rfl) (by simp only [Act.put, List.setIfInBounds_toArray, List.set_cons_zero, List.set_cons_succ] <;> rfl) ?_
    refine Lin.takeW 9 rfl rfl (by go_simp; exact ⟨rfl, rfl⟩) (by simp only [Act.put, List.setIfInBounds_toArray, List.set_cons_zero, List.set_cons_succ] <;> rfl) ?_
    intro z1 hz1
    obtain ⟨q, hq⟩ : ∃ q, q = wr.heap.size := ⟨_, rfl⟩
    rw [← hq]
    have hrow1 : z1.heap[q]? = some (.cells (lbz.arrv none 0 0) 32 (0, 0)) := by rw [hz1, hq]; exact heap_alloc_new _ _
    have hb1 : Below wr.heap.size wr z1 := by rw [hz1]; exact (Below.refl _ _).alloc (Nat.le_refl _) _
    have hzs1 : z1.heap.size = q + 1 := by rw [hz1, hq]; simp
    have HQ := Lib.hid hq
    clear hz1 hq
    refine W_store_row 32 q (l.arrv ad nd c) 32 (lbz.arrv none 0 0) rfl rfl hrow1 (by kernel_rfl) rfl (arrv_one _ _ _ _) ?_
    simp only [Act.put]
    obtain ⟨z2, hz2⟩ : ∃ y0, y0 = z1.setRow q (l.arrv ad nd c) := ⟨_, rfl⟩
    rw [← hz2]
    have HR2 : Hid (z2.heap[q]? = some (.cells (l.arrv ad nd c) 32 (0, 0))) := by rw [hz2]; exact Lib.hid (setRow_at hrow1)
    have HZ2 : Hid (Below wr.heap.size wr z2) := by rw [hz2]; exact Lib.hid (below_setRow hb1 (by have := HQ.out; omega) _)
    have hzs2 : z2.heap.size = q + 1 := by rw [hz2]; simpa using hzs1
    clear hz2 hb1 hrow1
    refine Lin.done (hKD _ _ ?_)
    clear hKD KD
    refine wp_seq_k (fun KD hKD => ?_)
    refine Lin.begin ?_
    refine Lin.take 39 rfl rfl (by go_simp <;> with_reducible rfl) (by simp only [Act.put, List.setIfInBounds_toArray, List.set_cons_zero, List.set_cons_succ] <;> rfl) ?_
    refine Lin.take 40 rfl rfl (by go_simp <;> with_reducible rfl) (by simp only [Act.put, List.setIfInBounds_toArray, List.set_cons_zero, List.set_cons_succ] <;> rfl) ?_
    refine Lin.store (w' := z2.setCell ⟨q, 1, none⟩ (.int .i64 (d : Int))) rfl (by have hc := (LbAt.of HR2.out).k1; have hf := frozen_of_row z2 q 1 _ _ HR2.out; go_simp <;> (first | exact ⟨rfl, rfl⟩ | rfl)) (by simp only [Act.put] <;> rfl) ?_
    intro z3 hz3
    have HR3 : Hid (z3.heap[q]? = some (.cells ((l.at (d : Int)).arrv ad nd c) 32 (0, 0))) := by
      rw [hz3, heap_setCell_same z2 q 1 _ _ _ HR2.out]
      exact Lib.hid rfl
    have HZ3 : Hid (Below wr.heap.size wr z3) := by rw [hz3]; exact Lib.hid (HZ2.out.setCell (p := ⟨q, 1, none⟩) (by rw [HQ.out]; exact Nat.le_refl _) _)
    have hzs3 : z3.heap.size = q + 1 := by rw [hz3]; simpa using hzs2
    clear hz3
    refine Lin.done (hKD _ _ ?_)
    clear hKD KD
    refine wp_seq_k (fun KD hKD => ?_)
    refine Lin.begin ?_
    refine Lin.take 41 rfl rfl (by go_simp <;> with_reducible rfl) (by simp only [Act.put, List.setIfInBounds_toArray, List.set_cons_zero, List.set_cons_succ] <;> rfl) ?_
    refine Lin.mid 42 true 32 _ q 0 ((l.at (d : Int)).arrv ad nd c).toList _ (by kernel_rfl) rfl rfl (fun _ => rfl) (LbAt.of HR3.out).range Try.underlying32 rfl (by kernel_rfl) (by simp only [Act.put, List.setIfInBounds_toArray, List.set_cons_zero, List.set_cons_succ] <;> rfl) ?_
    obtain ⟨ie, hie, hiz, his, hib⟩ := info_parts info_labelB
    refine wpList_buildSlice rfl 22 32 1 _ rfl (lcs [⟨l.at (d : Int), ad, nd, c⟩]).toArray ie (.agg (lbz.arrv none 0 0)) Try.underlying22 hie hiz (by rw [his]; decide) (by rw [his]; decide) (by rw [his]; kernel_rfl) ?_
    obtain ⟨z4, hz4⟩ : ∃ z, z = z3.alloc (.cells (lcs [⟨l.at (d : Int), ad, nd, c⟩]).toArray 32) := ⟨_, rfl⟩
    rw [← hz4]
    simp only [Act.put, List.setIfInBounds_toArray, List.set_cons_zero, List.set_cons_succ] 
    have HS4 : Hid (Sl z4 19 (some ⟨z3.heap.size, 0, none⟩) 1 1 (lcs [⟨l.at (d : Int), ad, nd, c⟩])) := by
      rw [hz4]
      refine Lib.hid (Sl.of_owns (World.ownsRow_lit (base := 0) (e := 32) (size := 19) z3 (lcs [⟨l.at (d : Int), ad, nd, c⟩]).toArray 1 (Nat.zero_le _) (by decide) (by simp [lcs_length])) (fun u hu => ?_)).2
      obtain ⟨x, hx, hu⟩ := List.mem_flatMap.1 hu
      exact x.arr_one u hu
    have HZ4 : Hid (Below wr.heap.size wr z4) := by rw [hz4]; exact Lib.hid (HZ3.out.alloc HZ3.out.size _)
    have HOL4 := Lib.hid (owns_belowI HOL.out HZ4.out)
    have HOB4 := Lib.hid (owns_belowI HOB.out HZ4.out)
    clear hz4
    refine wpList_plain rfl fun KP hKP => ?_
    refine wp_append_sl z4 (.tmp 41) (.tmp 43) 22 rfl w2.heap.size 32 ie (.agg (lbz.arrv none 0 0)) 19 168 Try.underlying22 hie hiz his hib rfl (by decide) _ d (lcs (misX l ad nd c d)) rfl HOL4.out _ 1 1 _ rfl HS4.out (by unfold maxLen; omega) (by omega) (by have h1 := HBW.out.size; have h2 := HZ4.out.size; omega) ?_
    intro a3 c3 z5 hown5 hg5
    refine hKP _ _ ?_
    clear hKP KP hie hiz his hib
    simp only [Act.put, List.setIfInBounds_toArray, List.set_cons_zero, List.set_cons_succ] 
    have HOL5 : Hid (z5.ownsRow w2.heap.size 32 19 (.slice a3 (d + 1) c3) (d + 1) (lcs (misX l ad nd c (d + 1)))) := by
      rw [misX_succ, lcs, List.flatMap_append]
      exact Lib.hid hown5
    have HOB5 : Hid (z5.ownsRow w2.heap.size 4 1 (.slice a2 d c2) d (bb (misR ms d))) := Lib.hid (World.ownsRow.kept HOB4.out hg5 (rows_apartI HOB4.out HOL4.out (by decide)))

    have HZ25 : Hid (Below w2.heap.size w2 z5) := Lib.hid (HBW.out.trans (HZ4.out.mono HBW.out.size) |>.grown hg5 (by have h1 := HBW.out.size; have h2 := HZ4.out.size; omega) (fun k hk => (HOL4.out.lt k hk).1))
    clear hown5 hg5
    refine Lin.take 5 rfl rfl (by go_simp <;> with_reducible rfl) (by simp only [Act.put, List.setIfInBounds_toArray, List.set_cons_zero, List.set_cons_succ] <;> rfl) ?_
    refine Lin.done (hKD _ _ ?_)
    clear hKD KD
    refine wp_seq_k (fun KD hKD => ?_)
    refine Lin.begin ?_
    refine Lin.take 45 rfl rfl (by go_simp <;> with_reducible rfl) (by simp only [Act.put, List.setIfInBounds_toArray, List.set_cons_zero, List.set_cons_succ] <;> rfl) ?_
    refine Lin.take 46 rfl rfl (by go_simp <;> with_reducible rfl) (by simp only [Act.put, List.setIfInBounds_toArray, List.set_cons_zero, List.set_cons_succ] <;> rfl) ?_
    refine Lin.take 47 rfl rfl (by go_simp <;> with_reducible rfl) (by simp only [Act.put, List.setIfInBounds_toArray, List.set_cons_zero, List.set_cons_succ] <;> rfl) ?_
    refine Lin.take 48 (v := .pointer (some ⟨bM, oM + d, none⟩)) rfl rfl (by have h1 := hdM; have h2 := hd0; have h3 := hcapM; go_simp <;> with_reducible rfl) (by simp only [Act.put, List.setIfInBounds_toArray, List.set_cons_zero, List.set_cons_succ] <;> rfl) ?_
    refine Lin.take 49 (v := .bool mb) rfl rfl (by have hc := CM.out _ HZ25.out; go_simp <;> with_reducible rfl) (by simp only [Act.put, List.setIfInBounds_toArray, List.set_cons_zero, List.set_cons_succ] <;> rfl) ?_
    refine Lin.take 50 (v := .bool (!mb)) rfl rfl (by go_simp <;> with_reducible rfl) (by simp only [Act.put, List.setIfInBounds_toArray, List.set_cons_zero, List.set_cons_succ] <;> rfl) ?_
    refine Lin.takeW 51 rfl rfl (by go_simp; exact ⟨rfl, rfl⟩) (by simp only [Act.put, List.setIfInBounds_toArray, List.set_cons_zero, List.set_cons_succ] <;> rfl) ?_
    intro z6 hz6
    have HT6 : Hid (Sl z6 1 (some ⟨z5.heap.size, 0, none⟩) 1 1 (bb [!mb])) := by rw [hz6]; exact Lib.hid (Sl.single z5 _ _ rfl)
    have HOL6 : Hid (z6.ownsRow w2.heap.size 32 19 (.slice a3 (d + 1) c3) (d + 1) (lcs (misX l ad nd c (d + 1)))) := by rw [hz6]; exact Lib.hid (HOL5.out.alloc _)
    have HOB6 : Hid (z6.ownsRow w2.heap.size 4 1 (.slice a2 d c2) d (bb (misR ms d))) := by rw [hz6]; exact Lib.hid (HOB5.out.alloc _)
    have HZ26 : Hid (Below w2.heap.size w2 z6) := by rw [hz6]; exact Lib.hid (HZ25.out.alloc HZ25.out.size _)
    clear hz6
    refine wpList_appendT z6 4 (.bool false) 1 (by kernel_rfl) rfl (by decide) rfl (.tmp 45) (.tmp 51) Try.underlying23 rfl w2.heap.size _ d (bb (misR ms d)) rfl HOB6.out _ 1 1 _ rfl HT6.out (by omega) HZ26.out.size ?_
    intro a4 c4 z7 hown7 hg7
    simp only [Act.put, List.setIfInBounds_toArray, List.set_cons_zero, List.set_cons_succ] 
    have HOB7 : Hid (z7.ownsRow w2.heap.size 4 1 (.slice a4 (d + 1) c4) (d + 1) (bb (misR ms (d + 1)))) := by
      rw [misR_succ, HMB.out]
      simpa [bb] using Lib.hid hown7
    have HOL7 : Hid (z7.ownsRow w2.heap.size 32 19 (.slice a3 (d + 1) c3) (d + 1) (lcs (misX l ad nd c (d + 1)))) := Lib.hid (World.ownsRow.kept HOL6.out hg7 (rows_apartI HOL6.out HOB6.out (by decide)))
    have HZ27 : Hid (Below w2.heap.size w2 z7) := Lib.hid (HZ26.out.grown hg7 HZ26.out.size (fun k hk => (HOB6.out.lt k hk).1))
    clear hown7 hg7
    refine Lin.take 6 rfl rfl (by go_simp <;> with_reducible rfl) (by simp only [Act.put, List.setIfInBounds_toArray, List.set_cons_zero, List.set_cons_succ] <;> rfl) ?_
    refine Lin.done (hKD _ _ ?_)
    clear hKD KD
    refine wp_seq_k (fun KD hKD => ?_)
    refine Lin.begin ?_
    refine Lin.take 53 rfl rfl (by go_simp <;> with_reducible rfl) (by simp only [Act.put, List.setIfInBounds_toArray, List.set_cons_zero, List.set_cons_succ] <;> rfl) ?_
    refine Lin.take 54 rfl rfl (by go_simp <;> with_reducible rfl) (by simp only [Act.put, List.setIfInBounds_toArray, List.set_cons_zero, List.set_cons_succ] <;> rfl) ?_
    refine Lin.take 55 (v := .pointer (some ⟨bM, oM + d, none⟩)) rfl rfl (by have h1 := hdM; have h2 := hd0; have h3 := hcapM; go_simp <;> with_reducible rfl) (by simp only [Act.put, List.setIfInBounds_toArray, List.set_cons_zero, List.set_cons_succ] <;> rfl) ?_
    refine Lin.take 56 (v := .bool mb) rfl rfl (by have hc := CM.out _ HZ27.out; go_simp <;> with_reducible rfl) (by simp only [Act.put, List.setIfInBounds_toArray, List.set_cons_zero, List.set_cons_succ] <;> rfl) ?_
    refine Lin.bool 57 rfl rfl (by go_simp <;> with_reducible rfl) ?_
    intro B57 hB57 aa ha; simp only [Act.put, List.setIfInBounds_toArray, List.set_cons_zero, List.set_cons_succ] at ha; subst ha; replace hB57 := Lib.hid hB57
    refine Lin.may 58 (!B57) (by cases B57 <;> kernel_rfl) rfl (by intro hc; (try simp only [hc, gv_true]); go_simp <;> with_reducible rfl) (by simp only [Act.put, List.setIfInBounds_toArray, List.set_cons_zero, List.set_cons_succ] <;> rfl) ?_
    refine Lin.may 59 (!B57) (by cases B57 <;> kernel_rfl) rfl (by intro hc; (try simp only [hc, gv_true]); have hk := (L2.out.below HZ27.out hg2).k15; go_simp <;> with_reducible rfl) (by simp only [Act.put, List.setIfInBounds_toArray, List.set_cons_zero, List.set_cons_succ] <;> rfl) ?_
    refine Lin.may 60 (!B57) (by cases B57 <;> kernel_rfl) rfl (by intro hc; (try simp only [hc, gv_true]); go_simp <;> with_reducible rfl) (by simp only [Act.put, List.setIfInBounds_toArray, List.set_cons_zero, List.set_cons_succ] <;> rfl) ?_
    refine Lin.may 61 (!B57) (v := .pointer (some ⟨bD, oD + d, none⟩)) (by cases B57 <;> kernel_rfl) rfl (by intro hc; (try simp only [hc, gv_true]); have h9 := HAD.out; have h1 := hdI; have h2 := hd0; have h3 := hcapD; go_simp <;> with_reducible rfl) (by simp only [Act.put, List.setIfInBounds_toArray, List.set_cons_zero, List.set_cons_succ] <;> rfl) ?_
    refine Lin.may 62 (!B57) (v := .bool db) (by cases B57 <;> kernel_rfl) rfl (by intro hc; (try simp only [hc, gv_true]); have hk := CD.out _ HZ27.out; go_simp <;> with_reducible rfl) (by simp only [Act.put, List.setIfInBounds_toArray, List.set_cons_zero, List.set_cons_succ] <;> rfl) ?_
    refine Lin.or 63 57 62 rfl rfl rfl rfl rfl ?_
    intro B63 hB63 aa ha; simp only [Act.put, List.setIfInBounds_toArray, List.set_cons_zero, List.set_cons_succ] at ha; subst ha; replace hB63 := Lib.hid hB63
    refine Lin.done (hKD _ _ ?_)
    clear hKD KD
    have HCB : Hid (B63 = (mb || db)) := by rw [hB63.out, hB57.out]; exact Lib.hid rfl
    clear hB63 hB57
    refine wp_cond_split rfl (fun ht => ?_) (fun hf => ?_)
    · rw [← HCB.out, ht, if_pos rfl] at HNX
      clear ht
      generalize gv _ _ = u0
      generalize gv _ _ = u1
      generalize gv _ _ = u2
      generalize gv _ _ = u3
      generalize gv _ _ = u4
      go_wp2
      go_roundw
      case rel => exact ⟨d + 1, k + 1, a3, c3, a4, c4, by go_num, by omega, rfl, rfl, by go_num, by omega, Lib.hid (by rw [HNX.out, HKN.out]), HOL7, HOB7, HZ27⟩
      case measure => simp [intOf]; omega
    · rw [← HCB.out, hf, if_neg (by simp)] at HNX
      clear hf
      refine wp_skip ?_
      (try simp only [Exit.inBlock, Exit.then])
      refine hKC _ _ ?_
      go_wp2
      go_roundw
      case rel => exact ⟨d + 1, k, a3, c3, a4, c4, by go_num, by omega, rfl, rfl, rfl, by omega, Lib.hid (by rw [HNX.out, HKN.out]; rfl), HOL7, HOB7, HZ27⟩
      case measure => simp [intOf]; omega
  have hdI : ¬ (d : Int) < nd := by omega
  obtain rfl : nd = d := by omega
  have HLW := missing_law HVAL.out ad nd c ms HNL.out
  rw [← HKN.out] at HLW
  have HLAW := Lib.hid HLW
  have hcap1 := (Sl.of_owns HOL.out (fun u hu => by obtain ⟨x, hx, hu⟩ := List.mem_flatMap.1 hu; exact x.arr_one u hu)).2
  have HXS : Hid (Lbs wr a1 nd c1 (misX l ad nd c nd)) := Lib.hid ⟨hcap1, fun x hx => by
    unfold misX at hx
    obtain ⟨i, _, rfl⟩ := List.mem_map.1 hx
    exact HS2.out.below HBW.out⟩
  have HRS : Hid (Sl wr 1 a2 nd c2 (bb (misR ms nd))) := Lib.hid (Sl.of_owns HOB.out (bb_one _)).2
  have HOKX : Hid (∀ x ∈ misX l ad nd c nd, x.l.ok) := Lib.hid fun x hx => by
    unfold misX at hx
    obtain ⟨i, hi, rfl⟩ := List.mem_map.1 hx
    have hi := List.mem_range.1 hi
    have h1 := HNUM.out.ok (by have := HNL.out; omega)
    obtain ⟨b0, b1, b2, b3, b4, b5, b6, b7, b8, b9, b10, b11, b12, b13, b14, b15, b16, b17, b18, b19, b20⟩ := h1
    exact ⟨b0, b1, (show -9223372036854775808 ≤ (i : Int) by omega), (show (i : Int) ≤ 9223372036854775807 by omega), b4, b5, b6, b7, b8, b9, b10, b11, b12, b13, b14, b15, b16, b17, b18, b19, b20⟩
  obtain ⟨le, hle⟩ : ∃ le, le = (electL (misX l ad nd c nd) (misR ms nd)).1 := ⟨_, rfl⟩
  obtain ⟨zs, hzs⟩ : ∃ zs, zs = (electL (misX l ad nd c nd) (misR ms nd)).2.1 := ⟨_, rfl⟩
  obtain ⟨er, her⟩ : ∃ er, er = (electL (misX l ad nd c nd) (misR ms nd)).2.2 := ⟨_, rfl⟩
  have hzl : zs.length ≤ 1000000 := by rw [hzs]; exact Nat.le_trans electL_places (by decide)
  rw [← hle, ← hzs, ← her] at HLAW
  obtain ⟨wz, hwz⟩ : ∃ wz, wz = wr := ⟨_, rfl⟩
  subst hwz
  have HEL1 := Lib.hid (ElRes.named hle hzs her (elect_any (misX l ad nd c nd) a1 nd c1 (misR ms nd) a2 nd c2 wz HXS.out HRS.out HOKX.out (by omega)))
  have HBz := Lib.hid (HB2.out.trans (HBW.out.mono HB2.out.size))
  have L3 := Lib.hid (L2.out.below HBW.out hg2)
  have hg3 : g < wz.heap.size := Nat.lt_of_lt_of_le hg2 HBW.out.size
  have HSz := Lib.hid (HS2.out.below HBW.out)
  clear hle hzs her HLW hcap1
  go_wp2
  refine HKL.out _ _ ?_
  clear HKL
  refine wp_seq_k (fun K hK => ?_)
  refine Lin.begin ?_
  refine Lin.take 68 rfl rfl (by go_simp <;> with_reducible rfl) (by simp only [Act.put, List.setIfInBounds_toArray, List.set_cons_zero, List.set_cons_succ] <;> rfl) ?_
  refine Lin.take 69 rfl rfl (by go_simp <;> with_reducible rfl) (by simp only [Act.put, List.setIfInBounds_toArray, List.set_cons_zero, List.set_cons_succ] <;> rfl) ?_
  refine Lin.enterX (fun r : (Option Addr × Nat × Nat) × (Option Addr × Nat × Nat) => .tuple #[.agg (le.arrv r.1.1 r.1.2.1 r.1.2.2), .slice r.2.1 r.2.2.1 r.2.2.2, .int .i64 er]) 70 rfl rfl (by go_simp <;> (first | exact ⟨rfl, rfl⟩ | rfl)) HEL1.out ?_
  rintro ⟨⟨ae1, ne1, ce1⟩, ⟨az1, nz1, cz1⟩⟩ wb1 ⟨hse, hsz, hb⟩ aa ha; simp only [Act.put, List.setIfInBounds_toArray, List.set_cons_zero, List.set_cons_succ] at ha; subst ha
  have hwb := hb.size
  have HBb1 := Lib.hid (HBz.out.trans (hb.mono HBz.out.size)); have HEb1 : Hid (Sl wb1 1 ae1 ne1 ce1 (bb le.dead)) := Lib.hid hse; have HZb1 : Hid (Sl wb1 1 az1 nz1 cz1 (zc zs)) := Lib.hid hsz
  have hbb1 := hb
  clear hse hsz hb
  refine Lin.take 67 rfl rfl (by go_simp <;> with_reducible rfl) (by simp only [Act.put, List.setIfInBounds_toArray, List.set_cons_zero, List.set_cons_succ] <;> rfl) ?_
  refine Lin.take 71 rfl rfl (by go_simp <;> with_reducible rfl) (by simp only [Act.put, List.setIfInBounds_toArray, List.set_cons_zero, List.set_cons_succ] <;> rfl) ?_
  refine Lin.take 72 rfl rfl (by go_simp <;> with_reducible rfl) (by simp only [Act.put, List.setIfInBounds_toArray, List.set_cons_zero, List.set_cons_succ] <;> rfl) ?_
  refine Lin.take 73 rfl rfl (by go_simp <;> with_reducible rfl) (by simp only [Act.put, List.setIfInBounds_toArray, List.set_cons_zero, List.set_cons_succ] <;> rfl) ?_
  refine Lin.takeW 10 rfl rfl (by go_simp; exact ⟨rfl, rfl⟩) (by simp only [Act.put, List.setIfInBounds_toArray, List.set_cons_zero, List.set_cons_succ] <;> rfl) ?_
  intro wc hwc
  obtain ⟨q1, hq⟩ : ∃ q, q = wb1.heap.size := ⟨_, rfl⟩
  rw [← hq]
  have hrow9 : wc.heap[q1]? = some (.cells (lbz.arrv none 0 0) 32 (0, 0)) := by rw [hwc, hq]; exact heap_alloc_new _ _
  have hb9 : Below wb1.heap.size wb1 wc := by rw [hwc]; exact (Below.refl _ _).alloc (Nat.le_refl _) _
  have HQ := Lib.hid hq
  have hcz : wc.heap.size = q1 + 1 := by rw [hwc, hq]; simp
  clear hwc hq
  refine W_store_row 32 q1 (le.arrv ae1 ne1 ce1) 32 (lbz.arrv none 0 0) rfl rfl hrow9 (by kernel_rfl) rfl (arrv_one _ _ _ _) ?_
  simp only [Act.put]
  obtain ⟨w5, hwd⟩ : ∃ y, y = wc.setRow q1 (le.arrv ae1 ne1 ce1) := ⟨_, rfl⟩
  rw [← hwd]
  have HLw5 : Hid (LbAt le ae1 ne1 ce1 q1 w5) := by rw [hwd]; exact Lib.hid (LbAt.of (setRow_at hrow9))
  have hbd : Below wb1.heap.size wb1 w5 := by rw [hwd]; exact below_setRow hb9 (by have := HQ.out; omega) _
  have HBw5 := Lib.hid (HBb1.out.trans (hbd.mono HBb1.out.size)); have HEw5 := Lib.hid (HEb1.out.below hbd); have HZw5 := Lib.hid (HZb1.out.below hbd); have hqw5 : q1 < w5.heap.size := by (have h9 : w5.heap.size = wc.heap.size := (by rw [hwd]; simp)); omega
  have hbd1 := hbb1.trans (hbd.mono hwb)
  clear hwd hrow9 hb9 hbd hwb hcz hbb1 HEb1 HZb1 HQ
  refine Lin.take 11 rfl rfl (by go_simp <;> with_reducible rfl) (by simp only [Act.put, List.setIfInBounds_toArray, List.set_cons_zero, List.set_cons_succ] <;> rfl) ?_
  refine Lin.take 12 rfl rfl (by go_simp <;> with_reducible rfl) (by simp only [Act.put, List.setIfInBounds_toArray, List.set_cons_zero, List.set_cons_succ] <;> rfl) ?_
  refine Lin.done (hK _ _ ?_)
  clear hK K
  by_cases hk3 : 3 < k
  · have hk3I : (k : Int) > 3 := by omega
    rcases HLAW.out.1 hk3 with h9 | ⟨h9, h10⟩
    · subst h9
      go_wp2
      go_ret
      exact ⟨rfl, HBw5.out⟩
    · subst h9
      have h10I : (k : Int) = nd := by omega
      clear h10
      go_wp2
      go_ret
      exact ⟨rfl, HBw5.out⟩
  · have hk3I : ¬ (k : Int) > 3 := by omega
    obtain ⟨h9, h10, h11⟩ := HLAW.out.2 hk3
    have HNG := Lib.hid h11
    subst h9
    have HEQ : Hid (Calls Try.prog 15 #[.agg (le.arrv ae1 ne1 ce1).toList.toArray, .agg (l.arrv ad nd c).toList.toArray] w5 fun e w' => e = .returned (.bool true) ∧ Below w5.heap.size w5 w') := by
      have h12 := refEqual_any le l ae1 ad ne1 nd ce1 c w5 HEw5.out (HSz.out.below hbd1) (by rw [(equal_fields h10).2.2.1]; have := HNL.out; omega)
      rw [decide_eq_true h10] at h12
      exact Lib.hid h12
    clear h10 h11
    refine wp_seq_k (fun KA hKA => ?_)
    refine wp_seq_k (fun KB hKB => ?_)
    refine Lin.begin ?_
    refine Lin.take 74 rfl rfl (by go_simp <;> with_reducible rfl) (by simp only [Act.put, List.setIfInBounds_toArray, List.set_cons_zero, List.set_cons_succ] <;> rfl) ?_
    refine Lin.take 75 (v := .bool false) rfl rfl (by have h1 := hk3I; go_simp <;> with_reducible rfl) (by simp only [Act.put, List.setIfInBounds_toArray, List.set_cons_zero, List.set_cons_succ] <;> rfl) ?_
    refine Lin.done (hKB _ _ ?_)
    refine wp_cond_false rfl ?_
    refine wp_skip ?_
    refine hKA _ _ ?_
    clear hKA hKB KA KB
    refine wp_seq_k (fun K hK => ?_)
    refine Lin.begin ?_
    refine Lin.take 88 rfl rfl (by go_simp <;> with_reducible rfl) (by simp only [Act.put, List.setIfInBounds_toArray, List.set_cons_zero, List.set_cons_succ] <;> rfl) ?_
    refine Lin.take 89 (v := .bool true) rfl rfl (by skip; go_simp <;> (first | with_reducible rfl | simp)) (by simp only [Act.put, List.setIfInBounds_toArray, List.set_cons_zero, List.set_cons_succ] <;> rfl) ?_
    refine Lin.bool 90 (x := true) rfl rfl (by go_simp <;> with_reducible rfl) ?_
    intro B90 hB90 aa ha; simp only [Act.put, List.setIfInBounds_toArray, List.set_cons_zero, List.set_cons_succ] at ha; subst ha
    subst hB90
    refine Lin.mid 91 true 32 _ q1 0 (le.arrv ae1 ne1 ce1).toList _ (by kernel_rfl) rfl rfl (fun _ => rfl) HLw5.out.range Try.underlying32 rfl (by kernel_rfl) (by simp only [Act.put, List.setIfInBounds_toArray, List.set_cons_zero, List.set_cons_succ] <;> rfl) ?_
    refine Lin.mid 92 true 32 _ g 0 (l.arrv ad nd c).toList _ (by kernel_rfl) rfl rfl (fun _ => rfl) (L3.out.below hbd1 hg3).range Try.underlying32 rfl (by kernel_rfl) (by simp only [Act.put, List.setIfInBounds_toArray, List.set_cons_zero, List.set_cons_succ] <;> rfl) ?_
    refine Lin.mayEnter 93 true (v := .bool true) (S := Below w5.heap.size w5) (by kernel_rfl) rfl (by intro hc; simp only [gv_true]; go_simp <;> (first | exact ⟨rfl, rfl⟩ | rfl)) (fun hc => HEQ.out) (fun _ => Below.refl _ _) (by simp only [Act.put, List.setIfInBounds_toArray, List.set_cons_zero, List.set_cons_succ] <;> rfl) ?_
    intro w6 hb6
    have HB6 := Lib.hid (HBw5.out.trans (hb6.mono HBw5.out.size)); have HZ6 := Lib.hid (HZw5.out.below hb6)
    clear hb6
    refine Lin.take 94 (v := .bool true) rfl rfl (by simp only [gv_true]; go_simp <;> with_reducible rfl) (by simp only [Act.put, List.setIfInBounds_toArray, List.set_cons_zero, List.set_cons_succ] <;> rfl) ?_
    refine Lin.bool 95 (x := true) rfl rfl (by go_simp <;> with_reducible rfl) ?_
    intro B95 hB95 aa ha; simp only [Act.put, List.setIfInBounds_toArray, List.set_cons_zero, List.set_cons_succ] at ha; subst ha
    subst hB95
    refine Lin.may 96 true (v := .slice az1 nz1 cz1) (by kernel_rfl) rfl (by intro hc; go_simp <;> with_reducible rfl) (by simp only [Act.put, List.setIfInBounds_toArray, List.set_cons_zero, List.set_cons_succ] <;> rfl) ?_
    refine Lin.mayEnter 97 true (v := .int .i64 (k : Int)) (S := Below w6.heap.size w6) (by kernel_rfl) rfl (by intro hc; simp only [gv_true]; go_simp <;> (first | exact ⟨rfl, rfl⟩ | rfl)) (fun hc => by have h9 := refCount_any zs az1 nz1 cz1 w6 HZ6.out hzl; rw [HNG.out] at h9; exact h9) (fun _ => Below.refl _ _) (by simp only [Act.put, List.setIfInBounds_toArray, List.set_cons_zero, List.set_cons_succ] <;> rfl) ?_
    intro w7 hb7
    have HB7 := Lib.hid (HB6.out.trans (hb7.mono HB6.out.size))
    clear hb7
    refine Lin.may 98 true (v := .int .i64 (k : Int)) (by kernel_rfl) rfl (by intro hc; go_simp <;> with_reducible rfl) (by simp only [Act.put, List.setIfInBounds_toArray, List.set_cons_zero, List.set_cons_succ] <;> rfl) ?_
    refine Lin.may 99 true (v := .bool true) (by kernel_rfl) rfl (by intro hc; simp only [gv_true]; go_simp <;> (first | with_reducible rfl | simp)) (by simp only [Act.put, List.setIfInBounds_toArray, List.set_cons_zero, List.set_cons_succ] <;> rfl) ?_
    refine Lin.take 100 (v := .bool true) rfl rfl (by simp only [gv_true]; go_simp <;> with_reducible rfl) (by simp only [Act.put, List.setIfInBounds_toArray, List.set_cons_zero, List.set_cons_succ] <;> rfl) ?_
    refine Lin.take 4 rfl rfl (by go_simp <;> with_reducible rfl) (by simp only [Act.put, List.setIfInBounds_toArray, List.set_cons_zero, List.set_cons_succ] <;> rfl) ?_
    refine Lin.done (hK _ _ ?_)
    refine wp_ret ?_
    (try simp only [Exit.then])
    refine bodyPost_ret (results_tmp rfl _ _ _) rfl ?_
    exact ⟨rfl, HB7.out⟩

end Go.Proofs.Ytgpfjinkmagelaa
