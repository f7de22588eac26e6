/- Labels: the reference's Valid. (Printed by lblr.py.) -/
import Derived.Test.YtgpfjinkmagelaaLblV
set_option linter.unusedVariables false
set_option linter.unusedSimpArgs false
namespace Go.Proofs.Ytgpfjinkmagelaa
open Go Go.RowKit Go.Lib

set_option maxRecDepth 100000 in
set_option maxHeartbeats 1600000 in
theorem refValid_any (l : Lb) (ad : Option Addr) (nd c : Nat) (w : World) (h : Sl w 1 ad nd c (bb l.dead)) (hok : l.ok) :
    Calls Try.prog 16 #[l.agg ad nd c] w fun e w' => e = .returned (.bool (decide l.valid)) ∧ Below w.heap.size w w' := by
  have HO := Lib.hid hok
  have HH := Lib.hid h
  have HN := Lib.hid (show nd = l.dead.length by have := h.len; rw [bb_length, Nat.mul_one] at this; omega)
  have HCAP := Lib.hid h.cap
  clear h hok
  unfold Lb.agg
  go_enter Try.func16, Try.ntmps16
  refine wp_seq_k (fun K hK => ?_)
  refine Lin.begin ?_
  refine Lin.takeW 1 rfl rfl (by go_simp; exact ⟨rfl, rfl⟩) (by simp only [Act.put, List.setIfInBounds_toArray, List.set_cons_zero, List.set_cons_succ] <;> rfl) ?_
  intro w1 hw1
  obtain ⟨g, hg⟩ : ∃ g, g = w.heap.size := ⟨_, rfl⟩
  have L1 : LbAt l ad nd c g w1 := by rw [hw1, hg]; exact LbAt.new l ad nd c 32 w
  have HB1 : Hid (Below w.heap.size w w1) := by rw [hw1]; exact Lib.hid ((Below.refl w.heap.size w).alloc (Nat.le_refl _) _)
  have hz1 : w.heap.size ≤ w1.heap.size := HB1.out.size
  have hg1 : g < w1.heap.size := by rw [hw1, hg]; simp
  rw [← hg]
  have HG := Lib.hid hg
  obtain ⟨C, hC⟩ : ∃ C, C = decide (cfgOk l.cd l.cw l.ct l.cs l.gr l.gb l.gt l.gs l.go l.ca l.cl) := ⟨_, rfl⟩
  have HC0 := Lib.hid hC
  obtain ⟨W1, hW1⟩ : ∃ C, C = decide (0 ≤ l.dk ∧ l.dk ≤ l.cd - 1) := ⟨_, rfl⟩
  have HW1 := Lib.hid hW1
  obtain ⟨W2, hW2⟩ : ∃ C, C = decide (0 ≤ l.blob ∧ l.blob ≤ 1048576) := ⟨_, rfl⟩
  have HW2 := Lib.hid hW2
  clear hC hW1 hW2
  clear hw1 hg
  refine Lin.take 2 rfl rfl (by go_simp <;> with_reducible rfl) (by simp only [Act.put, List.setIfInBounds_toArray, List.set_cons_zero, List.set_cons_succ] <;> rfl) ?_
  refine Lin.done (hK _ _ ?_)
  clear hK K
  refine wp_seq_k (fun K1 hK1 => ?_)
  refine wp_seq_k (fun K hK => ?_)
  refine Lin.begin ?_
  refine Lin.take 5 rfl rfl (by go_simp <;> with_reducible rfl) (by simp only [Act.put, List.setIfInBounds_toArray, List.set_cons_zero, List.set_cons_succ] <;> rfl) ?_
  refine Lin.take 6 rfl rfl (by obtain ⟨k0, k1, k2, k3, k4, k5, k6, k7, k8, k9, k10, k11, k12, k13, k14, k15, k16, k17, k18⟩ := id L1; go_simp <;> with_reducible rfl) (by simp only [Act.put, List.setIfInBounds_toArray, List.set_cons_zero, List.set_cons_succ] <;> rfl) ?_
  refine Lin.enter 7 rfl rfl (by go_simp <;> exact ⟨rfl, rfl⟩) (v := .bool C) (by rw [HC0.out]; exact refCfgValid_any l.cd l.cw l.ct l.cs l.gr l.gb l.gt l.gs l.go l.ca l.cl _ HO.out.ca0 HO.out.ca1 HO.out.cl0 HO.out.cl1) (by simp only [Act.put, List.setIfInBounds_toArray, List.set_cons_zero, List.set_cons_succ] <;> rfl) ?_
  intro w2 hb2
  have HB2 := Lib.hid (HB1.out.trans (hb2.mono hz1)); have L2 := L1.below hb2 hg1; have hg2 : g < w2.heap.size := Nat.lt_of_lt_of_le hg1 hb2.size
  obtain ⟨k0, k1, k2, k3, k4, k5, k6, k7, k8, k9, k10, k11, k12, k13, k14, k15, k16, k17, k18⟩ := id L2; have HL2 := Lib.hid L2; clear L1 L2 hb2
  refine Lin.take 8 (v := .bool (!C)) rfl rfl (by go_simp <;> with_reducible rfl) (by simp only [Act.put, List.setIfInBounds_toArray, List.set_cons_zero, List.set_cons_succ] <;> rfl) ?_
  refine Lin.bool 9 (x := (!C)) rfl rfl (by go_simp <;> with_reducible rfl) ?_
  intro B9 hB9 aa ha; simp only [Act.put, List.setIfInBounds_toArray, List.set_cons_zero, List.set_cons_succ] at ha; subst ha; replace hB9 := Lib.hid hB9
  refine Lin.may 10 (!B9) (by cases B9 <;> kernel_rfl) rfl (by intro hc; (try simp only [hc, gv_true]); go_simp <;> with_reducible rfl) (by simp only [Act.put, List.setIfInBounds_toArray, List.set_cons_zero, List.set_cons_succ] <;> rfl) ?_
  refine Lin.may 11 (!B9) (by cases B9 <;> kernel_rfl) rfl (by intro hc; (try simp only [hc, gv_true]); go_simp <;> with_reducible rfl) (by simp only [Act.put, List.setIfInBounds_toArray, List.set_cons_zero, List.set_cons_succ] <;> rfl) ?_
  refine Lin.may 12 (!B9) (by cases B9 <;> kernel_rfl) rfl (by intro hc; (try simp only [hc, gv_true]); go_simp <;> with_reducible rfl) (by simp only [Act.put, List.setIfInBounds_toArray, List.set_cons_zero, List.set_cons_succ] <;> rfl) ?_
  refine Lin.may 13 (!B9) (by cases B9 <;> kernel_rfl) rfl (by intro hc; (try simp only [hc, gv_true]); go_simp <;> with_reducible rfl) (by simp only [Act.put, List.setIfInBounds_toArray, List.set_cons_zero, List.set_cons_succ] <;> rfl) ?_
  refine Lin.may 14 (!B9) (by cases B9 <;> kernel_rfl) rfl (by intro hc; (try simp only [hc, gv_true]); go_simp <;> with_reducible rfl) (by simp only [Act.put, List.setIfInBounds_toArray, List.set_cons_zero, List.set_cons_succ] <;> rfl) ?_
  refine Lin.may 15 (!B9) (v := .int .i64 (l.cd - 1)) (by cases B9 <;> kernel_rfl) rfl (by intro hc; have hcd : 4 ≤ l.cd := (by rw [hB9.out, HC0.out] at hc; simp only [Bool.not_not, decide_eq_true_eq] at hc; exact hc.1); simp only [hc, gv_true]; have hu := HO.out.cd1; go_simp <;> exact IntWalk.i64_in _ (by omega)) (by simp only [Act.put, List.setIfInBounds_toArray, List.set_cons_zero, List.set_cons_succ] <;> rfl) ?_
  refine Lin.mayEnter 16 (!B9) (v := .bool W1) (S := (w2 = ·)) (by cases B9 <;> kernel_rfl) rfl (by intro hc; (try simp only [hc, gv_true]); go_simp <;> (first | exact ⟨rfl, rfl⟩ | rfl)) (fun hc => by rw [HW1.out]; exact refWithin_any _ _ _ _) (fun _ => rfl) (by simp only [Act.put, List.setIfInBounds_toArray, List.set_cons_zero, List.set_cons_succ] <;> rfl) ?_
  rintro _ rfl
  refine Lin.may 17 (!B9) (v := .bool (!W1)) (by cases B9 <;> kernel_rfl) rfl (by intro hc; (try simp only [hc, gv_true]); go_simp <;> with_reducible rfl) (by simp only [Act.put, List.setIfInBounds_toArray, List.set_cons_zero, List.set_cons_succ] <;> rfl) ?_
  refine Lin.or 18 9 17 rfl rfl rfl rfl rfl ?_
  intro B18 hB18 aa ha; simp only [Act.put, List.setIfInBounds_toArray, List.set_cons_zero, List.set_cons_succ] at ha; subst ha; replace hB18 := Lib.hid hB18
  refine Lin.take 19 rfl rfl (by go_simp <;> with_reducible rfl) (by simp only [Act.put, List.setIfInBounds_toArray, List.set_cons_zero, List.set_cons_succ] <;> rfl) ?_
  refine Lin.may 20 (!B18) (by cases B18 <;> kernel_rfl) rfl (by intro hc; (try simp only [hc, gv_true]); go_simp <;> with_reducible rfl) (by simp only [Act.put, List.setIfInBounds_toArray, List.set_cons_zero, List.set_cons_succ] <;> rfl) ?_
  refine Lin.may 21 (!B18) (by cases B18 <;> kernel_rfl) rfl (by intro hc; (try simp only [hc, gv_true]); go_simp <;> with_reducible rfl) (by simp only [Act.put, List.setIfInBounds_toArray, List.set_cons_zero, List.set_cons_succ] <;> rfl) ?_
  refine Lin.may 22 (!B18) (by cases B18 <;> kernel_rfl) rfl (by intro hc; (try simp only [hc, gv_true]); go_simp <;> with_reducible rfl) (by simp only [Act.put, List.setIfInBounds_toArray, List.set_cons_zero, List.set_cons_succ] <;> rfl) ?_
  refine Lin.or 23 19 22 rfl rfl rfl rfl rfl ?_
  intro B23 hB23 aa ha; simp only [Act.put, List.setIfInBounds_toArray, List.set_cons_zero, List.set_cons_succ] at ha; subst ha; replace hB23 := Lib.hid hB23
  refine Lin.take 24 rfl rfl (by go_simp <;> with_reducible rfl) (by simp only [Act.put, List.setIfInBounds_toArray, List.set_cons_zero, List.set_cons_succ] <;> rfl) ?_
  refine Lin.may 25 (!B23) (by cases B23 <;> kernel_rfl) rfl (by intro hc; (try simp only [hc, gv_true]); go_simp <;> with_reducible rfl) (by simp only [Act.put, List.setIfInBounds_toArray, List.set_cons_zero, List.set_cons_succ] <;> rfl) ?_
  refine Lin.may 26 (!B23) (by cases B23 <;> kernel_rfl) rfl (by intro hc; (try simp only [hc, gv_true]); go_simp <;> with_reducible rfl) (by simp only [Act.put, List.setIfInBounds_toArray, List.set_cons_zero, List.set_cons_succ] <;> rfl) ?_
  refine Lin.may 27 (!B23) (by cases B23 <;> kernel_rfl) rfl (by intro hc; (try simp only [hc, gv_true]); go_simp <;> with_reducible rfl) (by simp only [Act.put, List.setIfInBounds_toArray, List.set_cons_zero, List.set_cons_succ] <;> rfl) ?_
  refine Lin.or 28 24 27 rfl rfl rfl rfl rfl ?_
  intro B28 hB28 aa ha; simp only [Act.put, List.setIfInBounds_toArray, List.set_cons_zero, List.set_cons_succ] at ha; subst ha; replace hB28 := Lib.hid hB28
  refine Lin.take 29 rfl rfl (by go_simp <;> with_reducible rfl) (by simp only [Act.put, List.setIfInBounds_toArray, List.set_cons_zero, List.set_cons_succ] <;> rfl) ?_
  refine Lin.may 30 (!B28) (by cases B28 <;> kernel_rfl) rfl (by intro hc; (try simp only [hc, gv_true]); go_simp <;> with_reducible rfl) (by simp only [Act.put, List.setIfInBounds_toArray, List.set_cons_zero, List.set_cons_succ] <;> rfl) ?_
  refine Lin.may 31 (!B28) (by cases B28 <;> kernel_rfl) rfl (by intro hc; (try simp only [hc, gv_true]); go_simp <;> with_reducible rfl) (by simp only [Act.put, List.setIfInBounds_toArray, List.set_cons_zero, List.set_cons_succ] <;> rfl) ?_
  refine Lin.may 32 (!B28) (by cases B28 <;> kernel_rfl) rfl (by intro hc; (try simp only [hc, gv_true]); go_simp <;> with_reducible rfl) (by simp only [Act.put, List.setIfInBounds_toArray, List.set_cons_zero, List.set_cons_succ] <;> rfl) ?_
  refine Lin.may 33 (!B28) (by cases B28 <;> kernel_rfl) rfl (by intro hc; (try simp only [hc, gv_true]); go_simp <;> with_reducible rfl) (by simp only [Act.put, List.setIfInBounds_toArray, List.set_cons_zero, List.set_cons_succ] <;> rfl) ?_
  refine Lin.may 34 (!B28) (by cases B28 <;> kernel_rfl) rfl (by intro hc; (try simp only [hc, gv_true]); go_simp <;> with_reducible rfl) (by simp only [Act.put, List.setIfInBounds_toArray, List.set_cons_zero, List.set_cons_succ] <;> rfl) ?_
  refine Lin.or 35 29 34 rfl rfl rfl rfl rfl ?_
  intro B35 hB35 aa ha; simp only [Act.put, List.setIfInBounds_toArray, List.set_cons_zero, List.set_cons_succ] at ha; subst ha; replace hB35 := Lib.hid hB35
  refine Lin.take 36 rfl rfl (by go_simp <;> with_reducible rfl) (by simp only [Act.put, List.setIfInBounds_toArray, List.set_cons_zero, List.set_cons_succ] <;> rfl) ?_
  refine Lin.may 37 (!B35) (by cases B35 <;> kernel_rfl) rfl (by intro hc; (try simp only [hc, gv_true]); go_simp <;> with_reducible rfl) (by simp only [Act.put, List.setIfInBounds_toArray, List.set_cons_zero, List.set_cons_succ] <;> rfl) ?_
  refine Lin.may 38 (!B35) (by cases B35 <;> kernel_rfl) rfl (by intro hc; (try simp only [hc, gv_true]); go_simp <;> with_reducible rfl) (by simp only [Act.put, List.setIfInBounds_toArray, List.set_cons_zero, List.set_cons_succ] <;> rfl) ?_
  refine Lin.may 39 (!B35) (by cases B35 <;> kernel_rfl) rfl (by intro hc; (try simp only [hc, gv_true]); go_simp <;> with_reducible rfl) (by simp only [Act.put, List.setIfInBounds_toArray, List.set_cons_zero, List.set_cons_succ] <;> rfl) ?_
  refine Lin.may 40 (!B35) (by cases B35 <;> kernel_rfl) rfl (by intro hc; (try simp only [hc, gv_true]); go_simp <;> with_reducible rfl) (by simp only [Act.put, List.setIfInBounds_toArray, List.set_cons_zero, List.set_cons_succ] <;> rfl) ?_
  refine Lin.may 41 (!B35) (by cases B35 <;> kernel_rfl) rfl (by intro hc; (try simp only [hc, gv_true]); go_simp <;> with_reducible rfl) (by simp only [Act.put, List.setIfInBounds_toArray, List.set_cons_zero, List.set_cons_succ] <;> rfl) ?_
  refine Lin.may 42 (!B35) (by cases B35 <;> kernel_rfl) rfl (by intro hc; (try simp only [hc, gv_true]); go_simp <;> with_reducible rfl) (by simp only [Act.put, List.setIfInBounds_toArray, List.set_cons_zero, List.set_cons_succ] <;> rfl) ?_
  refine Lin.may 43 (!B35) (by cases B35 <;> kernel_rfl) rfl (by intro hc; (try simp only [hc, gv_true]); go_simp <;> with_reducible rfl) (by simp only [Act.put, List.setIfInBounds_toArray, List.set_cons_zero, List.set_cons_succ] <;> rfl) ?_
  refine Lin.or 44 36 43 rfl rfl rfl rfl rfl ?_
  intro B44 hB44 aa ha; simp only [Act.put, List.setIfInBounds_toArray, List.set_cons_zero, List.set_cons_succ] at ha; subst ha; replace hB44 := Lib.hid hB44
  refine Lin.take 45 rfl rfl (by go_simp <;> with_reducible rfl) (by simp only [Act.put, List.setIfInBounds_toArray, List.set_cons_zero, List.set_cons_succ] <;> rfl) ?_
  refine Lin.may 46 (!B44) (by cases B44 <;> kernel_rfl) rfl (by intro hc; (try simp only [hc, gv_true]); go_simp <;> with_reducible rfl) (by simp only [Act.put, List.setIfInBounds_toArray, List.set_cons_zero, List.set_cons_succ] <;> rfl) ?_
  refine Lin.may 47 (!B44) (by cases B44 <;> kernel_rfl) rfl (by intro hc; (try simp only [hc, gv_true]); go_simp <;> with_reducible rfl) (by simp only [Act.put, List.setIfInBounds_toArray, List.set_cons_zero, List.set_cons_succ] <;> rfl) ?_
  refine Lin.may 48 (!B44) (by cases B44 <;> kernel_rfl) rfl (by intro hc; (try simp only [hc, gv_true]); go_simp <;> with_reducible rfl) (by simp only [Act.put, List.setIfInBounds_toArray, List.set_cons_zero, List.set_cons_succ] <;> rfl) ?_
  refine Lin.may 49 (!B44) (by cases B44 <;> kernel_rfl) rfl (by intro hc; (try simp only [hc, gv_true]); go_simp <;> with_reducible rfl) (by simp only [Act.put, List.setIfInBounds_toArray, List.set_cons_zero, List.set_cons_succ] <;> rfl) ?_
  refine Lin.may 50 (!B44) (v := ixv ad l.dk) (by cases B44 <;> kernel_rfl) rfl (by intro hc; (try simp only [hc, gv_true]); have hx : l.dk < nd ∧ 0 ≤ l.dk := (by rw [hB44.out, hB35.out, hB28.out, hB23.out, hB18.out, hB9.out, HW1.out, HC0.out] at hc; simp only [Bool.not_eq_true', Bool.or_eq_false_iff, Bool.not_eq_false', decide_eq_true_eq, decide_eq_false_iff_not, bne_eq_false_iff_eq] at hc; omega); have hn := HN.out; obtain ⟨b, off, rfl, hcell⟩ := (HH.out.below HB2.out).at (k := l.dk.toNat) (by rw [bb_length]; omega); have hx1 := hx.1; have hx0 := hx.2; have hcap := HCAP.out; simp only [ixv]; clear hn; go_simp <;> (intros; omega)) (by simp only [Act.put, List.setIfInBounds_toArray, List.set_cons_zero, List.set_cons_succ] <;> rfl) ?_
  refine Lin.may 51 (!B44) (v := .bool ((l.dead[l.dk.toNat]?).getD true)) (by cases B44 <;> kernel_rfl) rfl (by intro hc; (try simp only [hc, gv_true]); have hx : l.dk < nd ∧ 0 ≤ l.dk := (by rw [hB44.out, hB35.out, hB28.out, hB23.out, hB18.out, hB9.out, HW1.out, HC0.out] at hc; simp only [Bool.not_eq_true', Bool.or_eq_false_iff, Bool.not_eq_false', decide_eq_true_eq, decide_eq_false_iff_not, bne_eq_false_iff_eq] at hc; omega); have hn := HN.out; obtain ⟨b, off, rfl, hcell⟩ := (HH.out.below HB2.out).at (k := l.dk.toNat) (by rw [bb_length]; omega); have hk := hcell l.dk.toNat (by rw [bb_length]; omega); simp only [ixv]; simp only [bb, List.getElem_map] at hk; rw [List.getElem?_eq_getElem (by omega : l.dk.toNat < l.dead.length)]; clear hcell; go_simp) (by simp only [Act.put, List.setIfInBounds_toArray, List.set_cons_zero, List.set_cons_succ] <;> rfl) ?_
  refine Lin.or 52 45 51 rfl rfl rfl rfl rfl ?_
  intro B52 hB52 aa ha; simp only [Act.put, List.setIfInBounds_toArray, List.set_cons_zero, List.set_cons_succ] at ha; subst ha; replace hB52 := Lib.hid hB52
  refine Lin.take 53 rfl rfl (by go_simp <;> with_reducible rfl) (by simp only [Act.put, List.setIfInBounds_toArray, List.set_cons_zero, List.set_cons_succ] <;> rfl) ?_
  refine Lin.may 54 (!B52) (by cases B52 <;> kernel_rfl) rfl (by intro hc; (try simp only [hc, gv_true]); go_simp <;> with_reducible rfl) (by simp only [Act.put, List.setIfInBounds_toArray, List.set_cons_zero, List.set_cons_succ] <;> rfl) ?_
  refine Lin.may 55 (!B52) (by cases B52 <;> kernel_rfl) rfl (by intro hc; (try simp only [hc, gv_true]); go_simp <;> with_reducible rfl) (by simp only [Act.put, List.setIfInBounds_toArray, List.set_cons_zero, List.set_cons_succ] <;> rfl) ?_
  refine Lin.mayEnter 56 (!B52) (v := .bool W2) (S := (w2 = ·)) (by cases B52 <;> kernel_rfl) rfl (by intro hc; (try simp only [hc, gv_true]); go_simp <;> (first | exact ⟨rfl, rfl⟩ | rfl)) (fun hc => by rw [HW2.out]; exact refWithin_any _ _ _ _) (fun _ => rfl) (by simp only [Act.put, List.setIfInBounds_toArray, List.set_cons_zero, List.set_cons_succ] <;> rfl) ?_
  rintro _ rfl
  refine Lin.may 57 (!B52) (v := .bool (!W2)) (by cases B52 <;> kernel_rfl) rfl (by intro hc; (try simp only [hc, gv_true]); go_simp <;> with_reducible rfl) (by simp only [Act.put, List.setIfInBounds_toArray, List.set_cons_zero, List.set_cons_succ] <;> rfl) ?_
  refine Lin.or 58 53 57 rfl rfl rfl rfl rfl ?_
  intro B58 hB58 aa ha; simp only [Act.put, List.setIfInBounds_toArray, List.set_cons_zero, List.set_cons_succ] at ha; subst ha; replace hB58 := Lib.hid hB58
  refine Lin.done (hK _ _ ?_)
  refine wp_cond_split rfl (fun ht => ?_) (fun hf => ?_)
  · refine wp_seq_k (fun K2 hK2 => ?_)
    refine Lin.begin ?_
    refine Lin.take 2 rfl rfl (by go_simp <;> with_reducible rfl) (by simp only [Act.put, List.setIfInBounds_toArray, List.set_cons_zero, List.set_cons_succ] <;> rfl) ?_
    refine Lin.done (hK2 _ _ ?_)
    refine wp_ret ?_
    simp only [Exit.then]
    refine bodyPost_ret (results_tmp rfl _ _ _) rfl ?_
    refine ⟨?_, HB2.out⟩
    have hnv : ¬ l.valid := by
      rw [hB58.out, hB52.out, hB44.out, hB35.out, hB28.out, hB23.out, hB18.out, hB9.out, HW1.out, HC0.out, HW2.out] at ht
      rintro ⟨h1, h2, h3, h4, h5, h6, h7, h8, h9, h10, h11⟩
      have h1' : cfgOk l.cd l.cw l.ct l.cs l.gr l.gb l.gt l.gs l.go l.ca l.cl := h1
      have hn := HN.out
      simp only [Bool.or_eq_true, Bool.not_eq_true', decide_eq_true_eq, decide_eq_false_iff_not, bne_iff_ne, h9, Option.getD_some, Bool.false_eq_true, or_false] at ht
      have := ht.resolve_right (by omega) |>.resolve_right (by omega) |>.resolve_right (by omega) |>.resolve_right (by omega) |>.resolve_right (by omega) |>.resolve_right (by omega)
      exact this h1'
    rw [decide_eq_false hnv]
    rfl
  have HQ : Hid (l.cfg ∧ 0 ≤ l.dk ∧ l.dk < l.cd ∧ 1 ≤ l.gen ∧ l.gen < 4294967296 ∧ l.prev < l.gen ∧ (l.dead.length : Int) = l.cd ∧ l.dead[l.dk.toNat]? = some false ∧ 0 ≤ l.blob ∧ l.blob ≤ 1048576) := by
    have hn := HN.out
    have hbit : ∀ o : Option Bool, o.getD true = false → o = some false := by intro o; rcases o with _ | _ | _ <;> simp
    rw [hB58.out, hB52.out, hB44.out, hB35.out, hB28.out, hB23.out, hB18.out, hB9.out, HW1.out, HC0.out, HW2.out] at hf
    simp only [Bool.or_eq_false_iff, Bool.not_eq_false', decide_eq_true_eq, decide_eq_false_iff_not, bne_eq_false_iff_eq] at hf
    obtain ⟨⟨⟨⟨⟨⟨⟨h1, h2⟩, h3⟩, h4⟩, h5⟩, h6⟩, h7⟩, h8⟩ := hf
    exact Lib.hid ⟨h1, by omega, by omega, by omega, by omega, by omega, by omega, hbit _ h7, by omega, by omega⟩
  clear hf hB58 hB52 hB44 hB35 hB28 hB23 hB18 hB9 HW1 HC0 HW2
  generalize gv _ _ = u0
  refine wp_skip ?_
  refine hK1 _ _ ?_
  clear hK1 K1 hK K k0 k1 k2 k3 k4 k5 k6 k7 k8 k9 k10 k11 k12 k13 k14 k16 k17 k18
  go_wp2
  have hlen : l.dead.length = nd := HN.out.symm
  have HL := Lib.hid hlen
  have hn6 : nd ≤ 1000000 := by have := HO.out.short; omega
  clear hlen
  go_loopw [3, 4] (fun nv iv wr => ∃ (i : Nat), nv = .int .i64 (((l.dead.take i).count true : Nat) : Int) ∧ iv = .int .i64 (i : Int) ∧ i ≤ nd ∧ Hid (LbAt l ad nd c g wr) ∧ Hid (Below w.heap.size w wr)) (fun _ iv _ => nd - (intOf iv).toNat)
  case atStart => exact ⟨0, rfl, rfl, by omega, HL2, HB2⟩
  case round =>
    obtain ⟨i, rfl, rfl, hin, hL, hB⟩ := hrel
    have k15 := hL.out.k15
    by_cases hi : i < nd
    · have hiI : (i : Int) < nd := by omega
      have hi0 : (0 : Int) ≤ (i : Int) := by omega
      have hik : i < l.dead.length := by have := HL.out; omega
      have hct := List.count_le_length (a := true) (l := l.dead.take i)
      rw [List.length_take] at hct
      obtain ⟨b, off, ha, hcell⟩ := (HH.out.below hB.out).at (k := i) (by rw [bb_length]; exact hik)
      subst ha
      have hc := hcell i (by rw [bb_length]; exact hik)
      simp only [bb, List.getElem_map] at hc
      have hnext := count_take hik
      clear hcell
      cases hbit : l.dead[i] with
      | true =>
        rw [hbit] at hc hnext
        have HN := Lib.hid hnext
        clear hnext hbit
        go_wp2
        go_roundw
        case rel => exact ⟨i + 1, by rw [HN.out]; simp, by go_num, by omega, hL, hB⟩
        case measure => simp [intOf]; omega
      | false =>
        rw [hbit] at hc hnext
        have HN := Lib.hid hnext
        clear hnext hbit
        go_wp2
        go_roundw
        case rel => exact ⟨i + 1, by rw [HN.out]; simp, by go_num, by omega, hL, hB⟩
        case measure => simp [intOf]; omega
    · have hiI : ¬ (i : Int) < nd := by omega
      obtain rfl : nd = i := by omega
      go_wp2
      go_ret
      rw [List.take_of_length_le (by have := HL.out; omega)]
      refine ⟨?_, hB.out⟩
      have hq := HQ.out
      have hval : decide ((l.dead.count true : Int) ≤ 3) = decide l.valid := by
       rw [decide_eq_decide]
       constructor
       · intro h
         exact ⟨hq.1, hq.2.1, hq.2.2.1, hq.2.2.2.1, hq.2.2.2.2.1, hq.2.2.2.2.2.1, hq.2.2.2.2.2.2.1, by omega, hq.2.2.2.2.2.2.2.1, hq.2.2.2.2.2.2.2.2.1, hq.2.2.2.2.2.2.2.2.2⟩
       · intro h
         have := h.2.2.2.2.2.2.2.1
         omega
      rw [← hval]
      rfl

end Go.Proofs.Ytgpfjinkmagelaa
