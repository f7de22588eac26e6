/- ElectionDead: for every list of labels the law returns true. (Printed by el13.py.) -/
import Derived.Test.YtgpfjinkmagelaaLawEElect
import Derived.Test.YtgpfjinkmagelaaElDead
import Derived.Test.YtgpfjinkmagelaaMay
set_option linter.unusedVariables false
set_option linter.unusedSimpArgs false
namespace Go.Proofs.Ytgpfjinkmagelaa
open Go Go.RowKit Go.Lib

set_option maxRecDepth 100000 in
set_option maxHeartbeats 3200000 in
theorem electionDead_walk (a : Option Addr) (n c : Nat) (xs : List LL) (ar : Option Addr) (nr cr : Nat) (rd : List Bool) (w : World) (h : Lbs w a n c xs) (hnum : ∀ x ∈ xs, x.l.num) (hr : Sl w 1 ar nr cr (bb rd)) :
    Calls Try.prog 5 #[.slice a n c, .slice ar nr cr] w fun e w' => e = .returned (.bool true) ∧ Below w.heap.size w w' := by
  have HX := Lib.hid h
  have HR := Lib.hid hr
  have HNUM := Lib.hid hnum
  have HLN := Lib.hid h.len
  have hcm : n ≤ 9223372036854775807 := by have h1 := h.sl.cap; have h2 := h.sl.max; unfold maxLen at h2; omega
  have hndm : ∀ x ∈ xs, x.nd ≤ 9223372036854775807 := fun x hx => by have h1 := (h.dead x hx).cap; have h2 := (h.dead x hx).max; unfold maxLen at h2; omega
  have hndl : ∀ x ∈ xs, x.l.dead.length = x.nd := fun x hx => by have := (h.dead x hx).len; rw [bb_length] at this; omega
  have HNDM := Lib.hid hndm
  have HNDL := Lib.hid hndl
  obtain ⟨BL, hBL⟩ : ∃ B, B = (decide (70 < n) || xs.any fun x => decide (100 < x.nd)) := ⟨_, rfl⟩
  have HBL := Lib.hid hBL
  clear h hr hnum hndm hndl hBL
  go_enter Try.func5, Try.ntmps5
  refine wp_seq_k (fun K hK => ?_)
  refine Lin.begin ?_
  refine Lin.take 4 rfl rfl (by go_simp <;> with_reducible rfl) (by simp only [Act.put, List.setIfInBounds_toArray, List.set_cons_zero, List.set_cons_succ] <;> rfl) ?_
  refine Lin.done (hK _ _ ?_)
  clear hK K
  refine wp_seq_k (fun K1 hK1 => ?_)
  refine wp_seq_k (fun K hK => ?_)
  refine Lin.begin ?_
  refine Lin.enter 10 rfl rfl (by go_simp <;> (first | exact ⟨rfl, rfl⟩ | rfl)) (awake31_any w) (by simp only [Act.put, List.setIfInBounds_toArray, List.set_cons_zero, List.set_cons_succ] <;> rfl) ?_
  intro w1 hb1
  have HB1 := Lib.hid hb1
  clear hb1
  refine Lin.take 11 rfl rfl (by go_simp <;> with_reducible rfl) (by simp only [Act.put, List.setIfInBounds_toArray, List.set_cons_zero, List.set_cons_succ] <;> rfl) ?_
  refine Lin.done (hK _ _ ?_)
  refine wp_cond_false rfl ?_
  refine wp_skip ?_
  refine hK1 _ _ ?_
  clear hK1 K1 hK K
  have HX1 := Lib.hid (HX.out.below HB1.out)
  have HR1 := Lib.hid (HR.out.below HB1.out)
  have HLG : Hid (Calls Try.prog 10 #[.slice a n c] w1 fun e w' => e = .returned (.bool BL) ∧ Below w1.heap.size w1 w') := by rw [HBL.out]; exact Lib.hid (large_any xs a n c w1 HX1.out hcm HNDM.out)
  refine wp_seq_k (fun K1 hK1 => ?_)
  refine wp_seq_k (fun K hK => ?_)
  refine Lin.begin ?_
  refine Lin.take 12 rfl rfl (by go_simp <;> with_reducible rfl) (by simp only [Act.put, List.setIfInBounds_toArray, List.set_cons_zero, List.set_cons_succ] <;> rfl) ?_
  refine Lin.enter 13 rfl rfl (by go_simp <;> (first | exact ⟨rfl, rfl⟩ | rfl)) (v := .bool BL) HLG.out (by simp only [Act.put, List.setIfInBounds_toArray, List.set_cons_zero, List.set_cons_succ] <;> rfl) ?_
  intro w2 hb2
  have HB2 := Lib.hid (HB1.out.trans (hb2.mono HB1.out.size)); have HX2 := Lib.hid (HX1.out.below hb2); have HR2 := Lib.hid (HR1.out.below hb2)
  clear hb2
  refine Lin.bool 14 (x := BL) rfl rfl (by go_simp <;> with_reducible rfl) ?_
  intro B14 hB14 aa ha; simp only [Act.put, List.setIfInBounds_toArray, List.set_cons_zero, List.set_cons_succ] at ha; subst ha
  refine Lin.may 15 (!B14) (by cases B14 <;> kernel_rfl) rfl (by intro hc; (try simp only [hc, gv_true]); go_simp <;> with_reducible rfl) (by simp only [Act.put, List.setIfInBounds_toArray, List.set_cons_zero, List.set_cons_succ] <;> rfl) ?_
  refine Lin.may 16 (!B14) (by cases B14 <;> kernel_rfl) rfl (by intro hc; (try simp only [hc, gv_true]); go_simp <;> with_reducible rfl) (by simp only [Act.put, List.setIfInBounds_toArray, List.set_cons_zero, List.set_cons_succ] <;> rfl) ?_
  refine Lin.may 17 (!B14) (by cases B14 <;> kernel_rfl) rfl (by intro hc; (try simp only [hc, gv_true]); go_simp <;> with_reducible rfl) (by simp only [Act.put, List.setIfInBounds_toArray, List.set_cons_zero, List.set_cons_succ] <;> rfl) ?_
  refine Lin.may 18 (!B14) (by cases B14 <;> kernel_rfl) rfl (by intro hc; (try simp only [hc, gv_true]); go_simp <;> with_reducible rfl) (by simp only [Act.put, List.setIfInBounds_toArray, List.set_cons_zero, List.set_cons_succ] <;> rfl) ?_
  refine Lin.may 19 (!B14) (v := .bool (!decide ((nr : Int) = n))) (by cases B14 <;> kernel_rfl) rfl (by intro hc; (try simp only [hc, gv_true]); go_simp <;> rfl) (by simp only [Act.put, List.setIfInBounds_toArray, List.set_cons_zero, List.set_cons_succ] <;> rfl) ?_
  refine Lin.or 20 14 19 rfl rfl rfl rfl rfl ?_
  intro B20 hB20 aa ha; simp only [Act.put, List.setIfInBounds_toArray, List.set_cons_zero, List.set_cons_succ] at ha; subst ha; replace hB20 := Lib.hid hB20
  refine Lin.done (hK _ _ ?_)
  refine wp_cond_split rfl (fun ht => ?_) (fun hf => ?_)
  ·
    refine wp_seq_k (fun KE hKE => ?_)
    refine Lin.begin ?_
    refine Lin.take 4 (v := .bool true) rfl rfl (by go_simp <;> with_reducible rfl) (by simp only [Act.put, List.setIfInBounds_toArray, List.set_cons_zero, List.set_cons_succ] <;> rfl) ?_
    refine Lin.done (hKE _ _ ?_)
    refine wp_ret ?_
    (try simp only [Exit.then])
    refine bodyPost_ret (results_tmp rfl _ _ _) rfl ?_
    exact ⟨rfl, HB2.out⟩
  have hsm : n ≤ 70 ∧ (∀ x ∈ xs, x.nd ≤ 100) ∧ nr = n := by
    have h1 : B14 = false := by
      cases h9 : B14 with
      | false => rfl
      | true => rw [hB20.out, h9] at hf; simp at hf
    have h2 : nr = n := by rw [hB20.out, h1] at hf; simp at hf; omega
    rw [hB14, HBL.out] at h1
    simp only [Bool.or_eq_false_iff, decide_eq_false_iff_not, List.any_eq_false, decide_eq_true_eq] at h1
    exact ⟨by omega, fun x hx => by have := h1.2 x hx; omega, h2⟩
  obtain ⟨hn70, hsm2, hnr⟩ := hsm
  have HOK : Hid (∀ x ∈ xs, x.l.ok) := Lib.hid fun x hx => (HNUM.out x hx).ok (by have h1 := HNDL.out x hx; have h2 := hsm2 x hx; omega)
  clear hf hB14 hB20 hsm2
  generalize gv _ _ = u0
  generalize gv _ _ = u1
  generalize gv _ _ = u2
  subst hnr
  refine wp_skip ?_
  refine hK1 _ _ ?_
  clear hK1 K1 hK K
  obtain ⟨le, hle⟩ : ∃ le, le = (electL xs rd).1 := ⟨_, rfl⟩
  obtain ⟨zs, hzs⟩ : ∃ zs, zs = (electL xs rd).2.1 := ⟨_, rfl⟩
  obtain ⟨er, her⟩ : ∃ er, er = (electL xs rd).2.2 := ⟨_, rfl⟩
  have HEL1 := Lib.hid (ElRes.named hle hzs her (elect_any xs a nr c rd ar nr cr w2 HX2.out HR2.out HOK.out (by omega)))
  have hfacts : er = 0 → ((zs.length : Nat) : Int) = le.cd ∧ le.dead.length = zs.length ∧ zs.length ≤ 60 ∧ ∀ d (hd : d < zs.length), zs[d] = -1 ∨ ∃ k : Nat, zs[d] = (k : Int) ∧ k < xs.length ∧ inDead le.dead (d : Int) = false ∧ rd[k]? = some true ∧ (lab xs k).dk = (d : Int) ∧ ((lab xs k).gen = le.gen ∨ (lab xs k).gen = le.prev) := by
    intro h0
    rw [her] at h0
    have := electL_dead h0
    subst hle hzs
    exact this
  have HFACTS := Lib.hid hfacts
  clear hle hzs her hfacts
  refine wp_seq_k (fun K hK => ?_)
  refine Lin.begin ?_
  refine Lin.take 22 rfl rfl (by go_simp <;> with_reducible rfl) (by simp only [Act.put, List.setIfInBounds_toArray, List.set_cons_zero, List.set_cons_succ] <;> rfl) ?_
  refine Lin.take 23 rfl rfl (by go_simp <;> with_reducible rfl) (by simp only [Act.put, List.setIfInBounds_toArray, List.set_cons_zero, List.set_cons_succ] <;> rfl) ?_
  refine Lin.enterX (fun r : (Option Addr × Nat × Nat) × (Option Addr × Nat × Nat) => .tuple #[.agg (le.arrv r.1.1 r.1.2.1 r.1.2.2), .slice r.2.1 r.2.2.1 r.2.2.2, .int .i64 er]) 24 rfl rfl (by go_simp <;> (first | exact ⟨rfl, rfl⟩ | rfl)) HEL1.out ?_
  rintro ⟨⟨ae1, ne1, ce1⟩, ⟨az1, nz1, cz1⟩⟩ wb1 ⟨hse, hsz, hb⟩ aa ha; simp only [Act.put, List.setIfInBounds_toArray, List.set_cons_zero, List.set_cons_succ] at ha; subst ha
  have hwb := hb.size
  have HBb1 := Lib.hid (HB2.out.trans (hb.mono HB2.out.size)); have HEb1 : Hid (Sl wb1 1 ae1 ne1 ce1 (bb le.dead)) := Lib.hid hse; have HZb1 : Hid (Sl wb1 1 az1 nz1 cz1 (zc zs)) := Lib.hid hsz
  have hbb1 := hb
  clear hse hsz hb
  refine Lin.take 21 rfl rfl (by go_simp <;> with_reducible rfl) (by simp only [Act.put, List.setIfInBounds_toArray, List.set_cons_zero, List.set_cons_succ] <;> rfl) ?_
  refine Lin.take 25 rfl rfl (by go_simp <;> with_reducible rfl) (by simp only [Act.put, List.setIfInBounds_toArray, List.set_cons_zero, List.set_cons_succ] <;> rfl) ?_
  refine Lin.take 26 rfl rfl (by go_simp <;> with_reducible rfl) (by simp only [Act.put, List.setIfInBounds_toArray, List.set_cons_zero, List.set_cons_succ] <;> rfl) ?_
  refine Lin.take 27 rfl rfl (by go_simp <;> with_reducible rfl) (by simp only [Act.put, List.setIfInBounds_toArray, List.set_cons_zero, List.set_cons_succ] <;> rfl) ?_
  refine Lin.takeW 5 rfl rfl (by go_simp; exact ⟨rfl, rfl⟩) (by simp only [Act.put, List.setIfInBounds_toArray, List.set_cons_zero, List.set_cons_succ] <;> rfl) ?_
  intro wc hwc
  obtain ⟨q1, hq⟩ : ∃ q, q = wb1.heap.size := ⟨_, rfl⟩
  rw [← hq]
  have hrow9 : wc.heap[q1]? = some (.cells (lbz.arrv none 0 0) 32 (0, 0)) := by rw [hwc, hq]; exact heap_alloc_new _ _
  have hb9 : Below wb1.heap.size wb1 wc := by rw [hwc]; exact (Below.refl _ _).alloc (Nat.le_refl _) _
  have HQ := Lib.hid hq
  have hcz : wc.heap.size = q1 + 1 := by rw [hwc, hq]; simp
  clear hwc hq
  refine W_store_row 32 q1 (le.arrv ae1 ne1 ce1) 32 (lbz.arrv none 0 0) rfl rfl hrow9 (by kernel_rfl) rfl (arrv_one _ _ _ _) ?_
  simp only [Act.put]
  obtain ⟨w5, hwd⟩ : ∃ y, y = wc.setRow q1 (le.arrv ae1 ne1 ce1) := ⟨_, rfl⟩
  rw [← hwd]
  have HLw5 : Hid (LbAt le ae1 ne1 ce1 q1 w5) := by rw [hwd]; exact Lib.hid (LbAt.of (setRow_at hrow9))
  have hbd : Below wb1.heap.size wb1 w5 := by rw [hwd]; exact below_setRow hb9 (by have := HQ.out; omega) _
  have HBw5 := Lib.hid (HBb1.out.trans (hbd.mono HBb1.out.size)); have HEw5 := Lib.hid (HEb1.out.below hbd); have HZw5 := Lib.hid (HZb1.out.below hbd); have hqw5 : q1 < w5.heap.size := by (have h9 : w5.heap.size = wc.heap.size := (by rw [hwd]; simp)); omega
  have hbd1 := hbb1.trans (hbd.mono hwb)
  clear hwd hrow9 hb9 hbd hwb hcz hbb1 HEb1 HZb1 HQ
  refine Lin.take 6 rfl rfl (by go_simp <;> with_reducible rfl) (by simp only [Act.put, List.setIfInBounds_toArray, List.set_cons_zero, List.set_cons_succ] <;> rfl) ?_
  refine Lin.take 7 rfl rfl (by go_simp <;> with_reducible rfl) (by simp only [Act.put, List.setIfInBounds_toArray, List.set_cons_zero, List.set_cons_succ] <;> rfl) ?_
  refine Lin.done (hK _ _ ?_)
  clear hK K
  refine wp_seq_k (fun K1 hK1 => ?_)
  refine wp_seq_k (fun K hK => ?_)
  by_cases her0 : er = 0
  · subst her0
    have her0 : (0 : Int) = 0 := rfl
    refine Lin.begin ?_
    refine Lin.take 28 rfl rfl (by go_simp <;> with_reducible rfl) (by simp only [Act.put, List.setIfInBounds_toArray, List.set_cons_zero, List.set_cons_succ] <;> rfl) ?_
    refine Lin.take 29 (v := .bool false) rfl rfl (by have h1 := her0; go_simp <;> (first | with_reducible rfl | simp)) (by simp only [Act.put, List.setIfInBounds_toArray, List.set_cons_zero, List.set_cons_succ] <;> rfl) ?_
    refine Lin.done (hK _ _ ?_)
    refine wp_cond_false rfl ?_
    refine wp_skip ?_
    refine hK1 _ _ ?_
    clear hK1 K1 hK K
    obtain ⟨f1, f2, f3, f4⟩ := HFACTS.out rfl
    have hnz : nz1 = zs.length := by have := HZw5.out.len; rw [zc_length] at this; omega
    have hne : zs.length = ne1 := by have := HEw5.out.len; rw [bb_length] at this; omega
    obtain ⟨m, hm⟩ : ∃ m, m = zs.length := ⟨_, rfl⟩
    rw [← hm] at hnz hne f1 f2 f3
    subst hnz
    subst hne
    have hm60 : nz1 ≤ 60 := f3
    have HM := Lib.hid hm
    have HF4 := Lib.hid f4
    have HDL := Lib.hid f2
    have KD : Hid (w5.cell? ⟨q1, 4, none⟩ = some (.int .i64 (nz1 : Int))) := by rw [f1]; exact Lib.hid HLw5.out.k4
    have K15 := Lib.hid HLw5.out.k15
    clear f1 f2 f3 f4 hm
    refine wp_seq_k (fun K1 hK1 => ?_)
    refine wp_seq_k (fun K hK => ?_)
    refine Lin.begin ?_
    refine Lin.take 30 rfl rfl (by go_simp <;> with_reducible rfl) (by simp only [Act.put, List.setIfInBounds_toArray, List.set_cons_zero, List.set_cons_succ] <;> rfl) ?_
    refine Lin.take 31 rfl rfl (by go_simp <;> with_reducible rfl) (by simp only [Act.put, List.setIfInBounds_toArray, List.set_cons_zero, List.set_cons_succ] <;> rfl) ?_
    refine Lin.take 32 rfl rfl (by go_simp <;> with_reducible rfl) (by simp only [Act.put, List.setIfInBounds_toArray, List.set_cons_zero, List.set_cons_succ] <;> rfl) ?_
    refine Lin.take 33 rfl rfl (by go_simp <;> with_reducible rfl) (by simp only [Act.put, List.setIfInBounds_toArray, List.set_cons_zero, List.set_cons_succ] <;> rfl) ?_
    refine Lin.take 34 (v := .int .i64 (nz1 : Int)) rfl rfl (by have hc := KD.out; go_simp <;> with_reducible rfl) (by simp only [Act.put, List.setIfInBounds_toArray, List.set_cons_zero, List.set_cons_succ] <;> rfl) ?_
    refine Lin.take 35 (v := .bool false) rfl rfl (by skip; go_simp <;> (first | with_reducible rfl | simp)) (by simp only [Act.put, List.setIfInBounds_toArray, List.set_cons_zero, List.set_cons_succ] <;> rfl) ?_
    refine Lin.bool 36 (x := false) rfl rfl (by go_simp <;> with_reducible rfl) ?_
    intro B36 hB36 aa ha; simp only [Act.put, List.setIfInBounds_toArray, List.set_cons_zero, List.set_cons_succ] at ha; subst ha
    subst hB36
    refine Lin.may 37 true (v := .pointer (some ⟨q1, 15, none⟩)) (by kernel_rfl) rfl (by intro hc; go_simp <;> with_reducible rfl) (by simp only [Act.put, List.setIfInBounds_toArray, List.set_cons_zero, List.set_cons_succ] <;> rfl) ?_
    refine Lin.may 38 true (v := .slice ae1  nz1 ce1) (by kernel_rfl) rfl (by intro hc; simp only [gv_true]; have hk := K15.out; go_simp <;> with_reducible rfl) (by simp only [Act.put, List.setIfInBounds_toArray, List.set_cons_zero, List.set_cons_succ] <;> rfl) ?_
    refine Lin.may 39 true (v := .int .i64 (nz1 : Int)) (by kernel_rfl) rfl (by intro hc; simp only [gv_true]; go_simp <;> with_reducible rfl) (by simp only [Act.put, List.setIfInBounds_toArray, List.set_cons_zero, List.set_cons_succ] <;> rfl) ?_
    refine Lin.may 40 true (v := .slice az1  nz1 cz1) (by kernel_rfl) rfl (by intro hc; go_simp <;> with_reducible rfl) (by simp only [Act.put, List.setIfInBounds_toArray, List.set_cons_zero, List.set_cons_succ] <;> rfl) ?_
    refine Lin.may 41 true (v := .int .i64 (nz1 : Int)) (by kernel_rfl) rfl (by intro hc; simp only [gv_true]; go_simp <;> with_reducible rfl) (by simp only [Act.put, List.setIfInBounds_toArray, List.set_cons_zero, List.set_cons_succ] <;> rfl) ?_
    refine Lin.may 42 true (v := .bool false) (by kernel_rfl) rfl (by intro hc; simp only [gv_true]; go_simp <;> (first | with_reducible rfl | simp)) (by simp only [Act.put, List.setIfInBounds_toArray, List.set_cons_zero, List.set_cons_succ] <;> rfl) ?_
    refine Lin.take 43 (v := .bool false) rfl rfl (by simp only [gv_true]; go_simp <;> with_reducible rfl) (by simp only [Act.put, List.setIfInBounds_toArray, List.set_cons_zero, List.set_cons_succ] <;> rfl) ?_
    refine Lin.done (hK _ _ ?_)
    refine wp_cond_false rfl ?_
    refine wp_skip ?_
    refine hK1 _ _ ?_
    clear hK1 K1 hK K
    have hcapE := HEw5.out.cap
    have hcapZ := HZw5.out.cap
    have hcapL := HX2.out.sl.cap
    have hcapR := HR2.out.cap
    have HX5 := Lib.hid (HX2.out.below hbd1)
    have HR5 := Lib.hid (HR2.out.below hbd1)
    generalize gv true _ = u3
    generalize gv true _ = u4
    generalize gv true _ = u5
    generalize gv true _ = u6
    generalize gv true _ = u7
    generalize gv true _ = u8
    go_wp2
    go_loopw [46] (fun iv wr => ∃ d : Nat, iv = .int .i64 (d : Int) ∧ d ≤ nz1 ∧ Hid (Below w5.heap.size w5 wr)) (fun iv _ => nz1 - (intOf iv).toNat)
    case atStart => exact ⟨0, rfl, by omega, Lib.hid (Below.refl _ _)⟩
    case round =>
    obtain ⟨d, rfl, hdm', HBW⟩ := hrel
    by_cases hd : d < nz1
    · have hdI : (d : Int) < nz1 := by omega
      have hd0 : (0 : Int) ≤ (d : Int) := by omega
      have hdz : d < zs.length := by have := HM.out; omega
      obtain ⟨bZ, oZ, haZ, hcellZ⟩ := (HZw5.out.below HBW.out).at (k := d) (by rw [zc_length]; exact hdz)
      have hcZ := hcellZ d (by rw [zc_length]; exact hdz)
      simp only [zc, List.getElem_map] at hcZ
      have hf4 := HF4.out d hdz
      obtain ⟨z, hz⟩ : ∃ z, z = zs[d] := ⟨_, rfl⟩
      rw [← hz] at hcZ hf4
      subst haZ
      clear hz hcellZ
      rcases hf4 with rfl | ⟨k, rfl, hkl, hkd, hkr, hkk, hkg⟩
      · have hz0 : (-1 : Int) < 0 := by decide
        go_wp2
        go_roundw
        case rel => exact ⟨d + 1, by go_num, by omega, HBW⟩
        case measure => simp [intOf]; omega
      · have hz0 : ¬ (k : Int) < 0 := by omega
        have hkI : (k : Int) < nr := by have := HLN.out; omega
        have hkR : (k : Int) < nr := hkI
        have hk0 : (0 : Int) ≤ (k : Int) := by omega
        have hdl : d < le.dead.length := by have := HDL.out; omega
        obtain ⟨bE, oE, haE, hcellE⟩ := (HEw5.out.below HBW.out).at (k := d) (by rw [bb_length]; exact hdl)
        have hcE := hcellE d (by rw [bb_length]; exact hdl)
        simp only [bb, List.getElem_map] at hcE
        rw [inDead_get (x := (d : Int)) hdl] at hkd
        rw [show le.dead[d] = false from hkd] at hcE
        obtain ⟨hkrl, hkrv⟩ := List.getElem?_eq_some_iff.1 hkr
        obtain ⟨bR, oR, haR, hcellR⟩ := (HR5.out.below HBW.out).at (k := k) (by rw [bb_length]; exact hkrl)
        have hcR := hcellR k (by rw [bb_length]; exact hkrl)
        simp only [bb, List.getElem_map] at hcR
        rw [hkrv] at hcR
        obtain ⟨bL, oL, haL, hbL, r0⟩ := (HX5.out.below HBW.out).at hkl
        have hc1 : wr.cell? ⟨bL, oL + k * 19 + 1, none⟩ = some (.int .i64 xs[k].l.dk) := r0 1 _ rfl
        have hc2 : wr.cell? ⟨bL, oL + k * 19 + 2, none⟩ = some (.int .u64 xs[k].l.gen) := r0 2 _ rfl
        rw [← lab_lt hkl] at hc1 hc2
        rw [hkk] at hc1
        obtain ⟨G, hG⟩ : ∃ G, G = (lab xs k).gen := ⟨_, rfl⟩
        rw [← hG] at hc2 hkg
        have CDD : Hid (∀ z, Below wr.heap.size wr z → z.cell? ⟨bE, oE + d, none⟩ = some (.bool false)) := Lib.hid fun z hz => below_cell hz (World.block_lt_of_cell? wr _ hcE) hcE
        have CR : Hid (∀ z, Below wr.heap.size wr z → z.cell? ⟨bR, oR + k, none⟩ = some (.bool true)) := Lib.hid fun z hz => below_cell hz (World.block_lt_of_cell? wr _ hcR) hcR
        have CDK : Hid (∀ z, Below wr.heap.size wr z → z.cell? ⟨bL, oL + k * 19 + 1, none⟩ = some (.int .i64 (d : Int))) := Lib.hid fun z hz => below_cell hz hbL hc1
        have CG : Hid (∀ z, Below wr.heap.size wr z → z.cell? ⟨bL, oL + k * 19 + 2, none⟩ = some (.int .u64 G)) := Lib.hid fun z hz => below_cell hz hbL hc2
        have hqr : q1 < wr.heap.size := by have := HBW.out.size; omega
        have C15 : Hid (∀ z, Below wr.heap.size wr z → z.cell? ⟨q1, 15, none⟩ = some (.slice ae1 nz1 ce1)) := Lib.hid fun z hz => ((HLw5.out.below HBW.out hqw5).below hz hqr).k15
        have C2 : Hid (∀ z, Below wr.heap.size wr z → z.cell? ⟨q1, 2, none⟩ = some (.int .u64 le.gen)) := Lib.hid fun z hz => ((HLw5.out.below HBW.out hqw5).below hz hqr).k2
        have C3 : Hid (∀ z, Below wr.heap.size wr z → z.cell? ⟨q1, 3, none⟩ = some (.int .u64 le.prev)) := Lib.hid fun z hz => ((HLw5.out.below HBW.out hqw5).below hz hqr).k3
        have HB := Lib.hid (show Below wr.heap.size wr wr.drew from (Below.refl _ _).drew)
        have hs : wr.heap.size ≤ wr.drew.heap.size := Nat.le_refl _
        subst haE haR haL
        clear hkl hkd hkr hkk hdl hcellE hcE hkrl hkrv hcellR hcR r0 hc1 hc2 hG
        go_wp2
        by_cases hgg : G = le.gen
        · clear hkg
          refine Rest.begin 47 (by kernel_rfl) (by kernel_rfl) ?_
          refine Rest.take 0 53 rfl (by kernel_rfl) (by kernel_rfl) (by kernel_rfl) (fun _ _ _ h => h) (by rfl) (by rfl) (by intro x hx; go_simp <;> with_reducible rfl) (by simp only [Act.put, List.setIfInBounds_toArray, List.set_cons_zero, List.set_cons_succ] <;> rfl) ?_
          refine Rest.take 1 54 rfl (by kernel_rfl) (by kernel_rfl) (by kernel_rfl) (fun _ _ _ h => h) (by rfl) (by rfl) (by intro x hx; go_simp <;> with_reducible rfl) (by simp only [Act.put, List.setIfInBounds_toArray, List.set_cons_zero, List.set_cons_succ] <;> rfl) ?_
          refine Rest.take 2 55 rfl (by kernel_rfl) (by kernel_rfl) (by kernel_rfl) (fun _ _ _ h => h) (by rfl) (by rfl) (by intro x hx; go_simp <;> with_reducible rfl) (by simp only [Act.put, List.setIfInBounds_toArray, List.set_cons_zero, List.set_cons_succ] <;> rfl) ?_
          refine Rest.take 3 56 (v := .bool false) rfl (by kernel_rfl) (by kernel_rfl) (by kernel_rfl) (fun _ _ _ h => h) (by rfl) (by rfl) (by intro x hx; have h1 : ¬ (k : Int) ≥ nr := (by omega); go_simp <;> (first | with_reducible rfl | assumption | (intro h9; exact absurd h9 h1) | simp | (trace_state; skip))) (by simp only [Act.put, List.setIfInBounds_toArray, List.set_cons_zero, List.set_cons_succ] <;> rfl) ?_
          refine Rest.take 4 57 rfl (by kernel_rfl) (by kernel_rfl) (by kernel_rfl) (fun _ _ _ h => h) (by rfl) (by rfl) (by intro x hx; go_simp <;> with_reducible rfl) (by simp only [Act.put, List.setIfInBounds_toArray, List.set_cons_zero, List.set_cons_succ] <;> rfl) ?_
          refine Rest.take 5 58 rfl (by kernel_rfl) (by kernel_rfl) (by kernel_rfl) (fun _ _ _ h => h) (by rfl) (by rfl) (by intro x hx; go_simp <;> with_reducible rfl) (by simp only [Act.put, List.setIfInBounds_toArray, List.set_cons_zero, List.set_cons_succ] <;> rfl) ?_
          refine Rest.take 6 59 rfl (by kernel_rfl) (by kernel_rfl) (by kernel_rfl) (fun _ _ _ h => h) (by rfl) (by rfl) (by intro x hx; have hc := C15.out x (later HB hs hx); go_simp <;> with_reducible rfl) (by simp only [Act.put, List.setIfInBounds_toArray, List.set_cons_zero, List.set_cons_succ] <;> rfl) ?_
          refine Rest.take 7 60 rfl (by kernel_rfl) (by kernel_rfl) (by kernel_rfl) (fun _ _ _ h => h) (by rfl) (by rfl) (by intro x hx; go_simp <;> with_reducible rfl) (by simp only [Act.put, List.setIfInBounds_toArray, List.set_cons_zero, List.set_cons_succ] <;> rfl) ?_
          refine Rest.take 8 61 (v := .pointer (some ⟨bE, oE + d, none⟩)) rfl (by kernel_rfl) (by kernel_rfl) (by kernel_rfl) (fun _ _ _ h => h) (by rfl) (by rfl) (by intro x hx; have h1 := hdI; have h2 := hd0; have h3 := hcapE; go_simp <;> with_reducible rfl) (by simp only [Act.put, List.setIfInBounds_toArray, List.set_cons_zero, List.set_cons_succ] <;> rfl) ?_
          refine Rest.take 9 62 (v := .bool false) rfl (by kernel_rfl) (by kernel_rfl) (by kernel_rfl) (fun _ _ _ h => h) (by rfl) (by rfl) (by intro x hx; have hc := CDD.out x (later HB hs hx); go_simp <;> with_reducible rfl) (by simp only [Act.put, List.setIfInBounds_toArray, List.set_cons_zero, List.set_cons_succ] <;> rfl) ?_
          refine Rest.take 10 63 rfl (by kernel_rfl) (by kernel_rfl) (by kernel_rfl) (fun _ _ _ h => h) (by rfl) (by rfl) (by intro x hx; go_simp <;> with_reducible rfl) (by simp only [Act.put, List.setIfInBounds_toArray, List.set_cons_zero, List.set_cons_succ] <;> rfl) ?_
          refine Rest.take 11 64 rfl (by kernel_rfl) (by kernel_rfl) (by kernel_rfl) (fun _ _ _ h => h) (by rfl) (by rfl) (by intro x hx; go_simp <;> with_reducible rfl) (by simp only [Act.put, List.setIfInBounds_toArray, List.set_cons_zero, List.set_cons_succ] <;> rfl) ?_
          refine Rest.take 12 65 rfl (by kernel_rfl) (by kernel_rfl) (by kernel_rfl) (fun _ _ _ h => h) (by rfl) (by rfl) (by intro x hx; go_simp <;> with_reducible rfl) (by simp only [Act.put, List.setIfInBounds_toArray, List.set_cons_zero, List.set_cons_succ] <;> rfl) ?_
          refine Rest.take 13 66 rfl (by kernel_rfl) (by kernel_rfl) (by kernel_rfl) (fun _ _ _ h => h) (by rfl) (by rfl) (by intro x hx; go_simp <;> with_reducible rfl) (by simp only [Act.put, List.setIfInBounds_toArray, List.set_cons_zero, List.set_cons_succ] <;> rfl) ?_
          refine Rest.take 14 67 (v := .pointer (some ⟨bR, oR + k, none⟩)) rfl (by kernel_rfl) (by kernel_rfl) (by kernel_rfl) (fun _ _ _ h => h) (by rfl) (by rfl) (by intro x hx; have h1 := hkR; have h2 := hk0; have h3 := hcapR; go_simp <;> with_reducible rfl) (by simp only [Act.put, List.setIfInBounds_toArray, List.set_cons_zero, List.set_cons_succ] <;> rfl) ?_
          refine Rest.take 15 68 (v := .bool true) rfl (by kernel_rfl) (by kernel_rfl) (by kernel_rfl) (fun _ _ _ h => h) (by rfl) (by rfl) (by intro x hx; have hc := CR.out x (later HB hs hx); go_simp <;> with_reducible rfl) (by simp only [Act.put, List.setIfInBounds_toArray, List.set_cons_zero, List.set_cons_succ] <;> rfl) ?_
          refine Rest.take 16 69 rfl (by kernel_rfl) (by kernel_rfl) (by kernel_rfl) (fun _ _ _ h => h) (by rfl) (by rfl) (by intro x hx; go_simp <;> with_reducible rfl) (by simp only [Act.put, List.setIfInBounds_toArray, List.set_cons_zero, List.set_cons_succ] <;> rfl) ?_
          refine Rest.take 17 70 rfl (by kernel_rfl) (by kernel_rfl) (by kernel_rfl) (fun _ _ _ h => h) (by rfl) (by rfl) (by intro x hx; go_simp <;> with_reducible rfl) (by simp only [Act.put, List.setIfInBounds_toArray, List.set_cons_zero, List.set_cons_succ] <;> rfl) ?_
          refine Rest.take 18 71 rfl (by kernel_rfl) (by kernel_rfl) (by kernel_rfl) (fun _ _ _ h => h) (by rfl) (by rfl) (by intro x hx; go_simp <;> with_reducible rfl) (by simp only [Act.put, List.setIfInBounds_toArray, List.set_cons_zero, List.set_cons_succ] <;> rfl) ?_
          refine Rest.take 19 72 rfl (by kernel_rfl) (by kernel_rfl) (by kernel_rfl) (fun _ _ _ h => h) (by rfl) (by rfl) (by intro x hx; go_simp <;> with_reducible rfl) (by simp only [Act.put, List.setIfInBounds_toArray, List.set_cons_zero, List.set_cons_succ] <;> rfl) ?_
          refine Rest.take 20 73 rfl (by kernel_rfl) (by kernel_rfl) (by kernel_rfl) (fun _ _ _ h => h) (by rfl) (by rfl) (by intro x hx; go_simp <;> with_reducible rfl) (by simp only [Act.put, List.setIfInBounds_toArray, List.set_cons_zero, List.set_cons_succ] <;> rfl) ?_
          refine Rest.take 21 74 (v := .pointer (some ⟨bL, oL + k * 19, none⟩)) rfl (by kernel_rfl) (by kernel_rfl) (by kernel_rfl) (fun _ _ _ h => h) (by rfl) (by rfl) (by intro x hx; have h1 := hkI; have h2 := hk0; have h3 := hcapL; go_simp <;> with_reducible rfl) (by simp only [Act.put, List.setIfInBounds_toArray, List.set_cons_zero, List.set_cons_succ] <;> rfl) ?_
          refine Rest.take 22 75 rfl (by kernel_rfl) (by kernel_rfl) (by kernel_rfl) (fun _ _ _ h => h) (by rfl) (by rfl) (by intro x hx; go_simp <;> with_reducible rfl) (by simp only [Act.put, List.setIfInBounds_toArray, List.set_cons_zero, List.set_cons_succ] <;> rfl) ?_
          refine Rest.take 23 76 (v := .int .i64 (d : Int)) rfl (by kernel_rfl) (by kernel_rfl) (by kernel_rfl) (fun _ _ _ h => h) (by rfl) (by rfl) (by intro x hx; have hc := CDK.out x (later HB hs hx); go_simp <;> with_reducible rfl) (by simp only [Act.put, List.setIfInBounds_toArray, List.set_cons_zero, List.set_cons_succ] <;> rfl) ?_
          refine Rest.take 24 77 rfl (by kernel_rfl) (by kernel_rfl) (by kernel_rfl) (fun _ _ _ h => h) (by rfl) (by rfl) (by intro x hx; go_simp <;> with_reducible rfl) (by simp only [Act.put, List.setIfInBounds_toArray, List.set_cons_zero, List.set_cons_succ] <;> rfl) ?_
          refine Rest.take 25 78 (v := .bool false) rfl (by kernel_rfl) (by kernel_rfl) (by kernel_rfl) (fun _ _ _ h => h) (by rfl) (by rfl) (by intro x hx; go_simp <;> (first | with_reducible rfl | assumption | (intro h9; exact absurd h9 h1) | simp | (trace_state; skip))) (by simp only [Act.put, List.setIfInBounds_toArray, List.set_cons_zero, List.set_cons_succ] <;> rfl) ?_
          refine Rest.take 26 79 rfl (by kernel_rfl) (by kernel_rfl) (by kernel_rfl) (fun _ _ _ h => h) (by rfl) (by rfl) (by intro x hx; go_simp <;> with_reducible rfl) (by simp only [Act.put, List.setIfInBounds_toArray, List.set_cons_zero, List.set_cons_succ] <;> rfl) ?_
          refine Rest.take 27 80 rfl (by kernel_rfl) (by kernel_rfl) (by kernel_rfl) (fun _ _ _ h => h) (by rfl) (by rfl) (by intro x hx; go_simp <;> with_reducible rfl) (by simp only [Act.put, List.setIfInBounds_toArray, List.set_cons_zero, List.set_cons_succ] <;> rfl) ?_
          refine Rest.take 28 81 rfl (by kernel_rfl) (by kernel_rfl) (by kernel_rfl) (fun _ _ _ h => h) (by rfl) (by rfl) (by intro x hx; go_simp <;> with_reducible rfl) (by simp only [Act.put, List.setIfInBounds_toArray, List.set_cons_zero, List.set_cons_succ] <;> rfl) ?_
          refine Rest.take 29 82 rfl (by kernel_rfl) (by kernel_rfl) (by kernel_rfl) (fun _ _ _ h => h) (by rfl) (by rfl) (by intro x hx; go_simp <;> with_reducible rfl) (by simp only [Act.put, List.setIfInBounds_toArray, List.set_cons_zero, List.set_cons_succ] <;> rfl) ?_
          refine Rest.take 30 83 (v := .pointer (some ⟨bL, oL + k * 19, none⟩)) rfl (by kernel_rfl) (by kernel_rfl) (by kernel_rfl) (fun _ _ _ h => h) (by rfl) (by rfl) (by intro x hx; have h1 := hkI; have h2 := hk0; have h3 := hcapL; go_simp <;> with_reducible rfl) (by simp only [Act.put, List.setIfInBounds_toArray, List.set_cons_zero, List.set_cons_succ] <;> rfl) ?_
          refine Rest.take 31 84 rfl (by kernel_rfl) (by kernel_rfl) (by kernel_rfl) (fun _ _ _ h => h) (by rfl) (by rfl) (by intro x hx; go_simp <;> with_reducible rfl) (by simp only [Act.put, List.setIfInBounds_toArray, List.set_cons_zero, List.set_cons_succ] <;> rfl) ?_
          refine Rest.take 32 85 rfl (by kernel_rfl) (by kernel_rfl) (by kernel_rfl) (fun _ _ _ h => h) (by rfl) (by rfl) (by intro x hx; have hc := CG.out x (later HB hs hx); go_simp <;> with_reducible rfl) (by simp only [Act.put, List.setIfInBounds_toArray, List.set_cons_zero, List.set_cons_succ] <;> rfl) ?_
          refine Rest.take 33 86 rfl (by kernel_rfl) (by kernel_rfl) (by kernel_rfl) (fun _ _ _ h => h) (by rfl) (by rfl) (by intro x hx; go_simp <;> with_reducible rfl) (by simp only [Act.put, List.setIfInBounds_toArray, List.set_cons_zero, List.set_cons_succ] <;> rfl) ?_
          refine Rest.take 34 87 rfl (by kernel_rfl) (by kernel_rfl) (by kernel_rfl) (fun _ _ _ h => h) (by rfl) (by rfl) (by intro x hx; have hc := C2.out x (later HB hs hx); go_simp <;> with_reducible rfl) (by simp only [Act.put, List.setIfInBounds_toArray, List.set_cons_zero, List.set_cons_succ] <;> rfl) ?_
          refine Rest.take 35 88 (v := .bool false) rfl (by kernel_rfl) (by kernel_rfl) (by kernel_rfl) (fun _ _ _ h => h) (by rfl) (by rfl) (by intro x hx; have h1 := hgg; (try clear hgp); go_simp <;> (first | with_reducible rfl | assumption | (intro h9; exact absurd h9 h1) | simp | (trace_state; skip))) (by simp only [Act.put, List.setIfInBounds_toArray, List.set_cons_zero, List.set_cons_succ] <;> rfl) ?_
          refine Rest.take 36 89 rfl (by kernel_rfl) (by kernel_rfl) (by kernel_rfl) (fun _ _ _ h => h) (by rfl) (by rfl) (by intro x hx; go_simp <;> with_reducible rfl) (by simp only [Act.put, List.setIfInBounds_toArray, List.set_cons_zero, List.set_cons_succ] <;> rfl) ?_
          refine Rest.skip 37 90 rfl (by kernel_rfl) (by kernel_rfl) (by kernel_rfl) (fun _ _ _ h => h) (by rfl) (by rfl) (by simp only [Act.put, List.setIfInBounds_toArray, List.set_cons_zero, List.set_cons_succ] <;> rfl) ?_
          refine Rest.skip 38 91 rfl (by kernel_rfl) (by kernel_rfl) (by kernel_rfl) (fun _ _ _ h => h) (by rfl) (by rfl) (by simp only [Act.put, List.setIfInBounds_toArray, List.set_cons_zero, List.set_cons_succ] <;> rfl) ?_
          refine Rest.skip 39 92 rfl (by kernel_rfl) (by kernel_rfl) (by kernel_rfl) (fun _ _ _ h => h) (by rfl) (by rfl) (by simp only [Act.put, List.setIfInBounds_toArray, List.set_cons_zero, List.set_cons_succ] <;> rfl) ?_
          refine Rest.skip 40 93 rfl (by kernel_rfl) (by kernel_rfl) (by kernel_rfl) (fun _ _ _ h => h) (by rfl) (by rfl) (by simp only [Act.put, List.setIfInBounds_toArray, List.set_cons_zero, List.set_cons_succ] <;> rfl) ?_
          refine Rest.skip 41 94 rfl (by kernel_rfl) (by kernel_rfl) (by kernel_rfl) (fun _ _ _ h => h) (by rfl) (by rfl) (by simp only [Act.put, List.setIfInBounds_toArray, List.set_cons_zero, List.set_cons_succ] <;> rfl) ?_
          refine Rest.skip 42 95 rfl (by kernel_rfl) (by kernel_rfl) (by kernel_rfl) (fun _ _ _ h => h) (by rfl) (by rfl) (by simp only [Act.put, List.setIfInBounds_toArray, List.set_cons_zero, List.set_cons_succ] <;> rfl) ?_
          refine Rest.skip 43 96 rfl (by kernel_rfl) (by kernel_rfl) (by kernel_rfl) (fun _ _ _ h => h) (by rfl) (by rfl) (by simp only [Act.put, List.setIfInBounds_toArray, List.set_cons_zero, List.set_cons_succ] <;> rfl) ?_
          refine Rest.skip 44 97 rfl (by kernel_rfl) (by kernel_rfl) (by kernel_rfl) (fun _ _ _ h => h) (by rfl) (by rfl) (by simp only [Act.put, List.setIfInBounds_toArray, List.set_cons_zero, List.set_cons_succ] <;> rfl) ?_
          refine Rest.take 45 98 rfl (by kernel_rfl) (by kernel_rfl) (by kernel_rfl) (fun _ _ _ h => h) (by rfl) (by rfl) (by intro x hx; go_simp <;> with_reducible rfl) (by simp only [Act.put, List.setIfInBounds_toArray, List.set_cons_zero, List.set_cons_succ] <;> rfl) ?_
          refine Rest.take 46 99 rfl (by kernel_rfl) (by kernel_rfl) (by kernel_rfl) (fun _ _ _ h => h) (by rfl) (by rfl) (by intro x hx; go_simp <;> with_reducible rfl) (by simp only [Act.put, List.setIfInBounds_toArray, List.set_cons_zero, List.set_cons_succ] <;> rfl) ?_
          refine Rest.done (by kernel_rfl) ?_
          go_wp2
          go_roundw
          case rel => exact ⟨d + 1, by go_num, by omega, Lib.hid (HBW.out.trans (HB.out.mono HBW.out.size))⟩
          case measure => simp [intOf]; omega
        · have HGP : Hid (G = le.prev) := Lib.hid (hkg.resolve_left hgg)
          clear hkg
          refine Rest.begin 47 (by kernel_rfl) (by kernel_rfl) ?_
          refine Rest.take 0 53 rfl (by kernel_rfl) (by kernel_rfl) (by kernel_rfl) (fun _ _ _ h => h) (by rfl) (by rfl) (by intro x hx; go_simp <;> with_reducible rfl) (by simp only [Act.put, List.setIfInBounds_toArray, List.set_cons_zero, List.set_cons_succ] <;> rfl) ?_
          refine Rest.take 1 54 rfl (by kernel_rfl) (by kernel_rfl) (by kernel_rfl) (fun _ _ _ h => h) (by rfl) (by rfl) (by intro x hx; go_simp <;> with_reducible rfl) (by simp only [Act.put, List.setIfInBounds_toArray, List.set_cons_zero, List.set_cons_succ] <;> rfl) ?_
          refine Rest.take 2 55 rfl (by kernel_rfl) (by kernel_rfl) (by kernel_rfl) (fun _ _ _ h => h) (by rfl) (by rfl) (by intro x hx; go_simp <;> with_reducible rfl) (by simp only [Act.put, List.setIfInBounds_toArray, List.set_cons_zero, List.set_cons_succ] <;> rfl) ?_
          refine Rest.take 3 56 (v := .bool false) rfl (by kernel_rfl) (by kernel_rfl) (by kernel_rfl) (fun _ _ _ h => h) (by rfl) (by rfl) (by intro x hx; have h1 : ¬ (k : Int) ≥ nr := (by omega); go_simp <;> (first | with_reducible rfl | assumption | (intro h9; exact absurd h9 h1) | simp | (trace_state; skip))) (by simp only [Act.put, List.setIfInBounds_toArray, List.set_cons_zero, List.set_cons_succ] <;> rfl) ?_
          refine Rest.take 4 57 rfl (by kernel_rfl) (by kernel_rfl) (by kernel_rfl) (fun _ _ _ h => h) (by rfl) (by rfl) (by intro x hx; go_simp <;> with_reducible rfl) (by simp only [Act.put, List.setIfInBounds_toArray, List.set_cons_zero, List.set_cons_succ] <;> rfl) ?_
          refine Rest.take 5 58 rfl (by kernel_rfl) (by kernel_rfl) (by kernel_rfl) (fun _ _ _ h => h) (by rfl) (by rfl) (by intro x hx; go_simp <;> with_reducible rfl) (by simp only [Act.put, List.setIfInBounds_toArray, List.set_cons_zero, List.set_cons_succ] <;> rfl) ?_
          refine Rest.take 6 59 rfl (by kernel_rfl) (by kernel_rfl) (by kernel_rfl) (fun _ _ _ h => h) (by rfl) (by rfl) (by intro x hx; have hc := C15.out x (later HB hs hx); go_simp <;> with_reducible rfl) (by simp only [Act.put, List.setIfInBounds_toArray, List.set_cons_zero, List.set_cons_succ] <;> rfl) ?_
          refine Rest.take 7 60 rfl (by kernel_rfl) (by kernel_rfl) (by kernel_rfl) (fun _ _ _ h => h) (by rfl) (by rfl) (by intro x hx; go_simp <;> with_reducible rfl) (by simp only [Act.put, List.setIfInBounds_toArray, List.set_cons_zero, List.set_cons_succ] <;> rfl) ?_
          refine Rest.take 8 61 (v := .pointer (some ⟨bE, oE + d, none⟩)) rfl (by kernel_rfl) (by kernel_rfl) (by kernel_rfl) (fun _ _ _ h => h) (by rfl) (by rfl) (by intro x hx; have h1 := hdI; have h2 := hd0; have h3 := hcapE; go_simp <;> with_reducible rfl) (by simp only [Act.put, List.setIfInBounds_toArray, List.set_cons_zero, List.set_cons_succ] <;> rfl) ?_
          refine Rest.take 9 62 (v := .bool false) rfl (by kernel_rfl) (by kernel_rfl) (by kernel_rfl) (fun _ _ _ h => h) (by rfl) (by rfl) (by intro x hx; have hc := CDD.out x (later HB hs hx); go_simp <;> with_reducible rfl) (by simp only [Act.put, List.setIfInBounds_toArray, List.set_cons_zero, List.set_cons_succ] <;> rfl) ?_
          refine Rest.take 10 63 rfl (by kernel_rfl) (by kernel_rfl) (by kernel_rfl) (fun _ _ _ h => h) (by rfl) (by rfl) (by intro x hx; go_simp <;> with_reducible rfl) (by simp only [Act.put, List.setIfInBounds_toArray, List.set_cons_zero, List.set_cons_succ] <;> rfl) ?_
          refine Rest.take 11 64 rfl (by kernel_rfl) (by kernel_rfl) (by kernel_rfl) (fun _ _ _ h => h) (by rfl) (by rfl) (by intro x hx; go_simp <;> with_reducible rfl) (by simp only [Act.put, List.setIfInBounds_toArray, List.set_cons_zero, List.set_cons_succ] <;> rfl) ?_
          refine Rest.take 12 65 rfl (by kernel_rfl) (by kernel_rfl) (by kernel_rfl) (fun _ _ _ h => h) (by rfl) (by rfl) (by intro x hx; go_simp <;> with_reducible rfl) (by simp only [Act.put, List.setIfInBounds_toArray, List.set_cons_zero, List.set_cons_succ] <;> rfl) ?_
          refine Rest.take 13 66 rfl (by kernel_rfl) (by kernel_rfl) (by kernel_rfl) (fun _ _ _ h => h) (by rfl) (by rfl) (by intro x hx; go_simp <;> with_reducible rfl) (by simp only [Act.put, List.setIfInBounds_toArray, List.set_cons_zero, List.set_cons_succ] <;> rfl) ?_
          refine Rest.take 14 67 (v := .pointer (some ⟨bR, oR + k, none⟩)) rfl (by kernel_rfl) (by kernel_rfl) (by kernel_rfl) (fun _ _ _ h => h) (by rfl) (by rfl) (by intro x hx; have h1 := hkR; have h2 := hk0; have h3 := hcapR; go_simp <;> with_reducible rfl) (by simp only [Act.put, List.setIfInBounds_toArray, List.set_cons_zero, List.set_cons_succ] <;> rfl) ?_
          refine Rest.take 15 68 (v := .bool true) rfl (by kernel_rfl) (by kernel_rfl) (by kernel_rfl) (fun _ _ _ h => h) (by rfl) (by rfl) (by intro x hx; have hc := CR.out x (later HB hs hx); go_simp <;> with_reducible rfl) (by simp only [Act.put, List.setIfInBounds_toArray, List.set_cons_zero, List.set_cons_succ] <;> rfl) ?_
          refine Rest.take 16 69 rfl (by kernel_rfl) (by kernel_rfl) (by kernel_rfl) (fun _ _ _ h => h) (by rfl) (by rfl) (by intro x hx; go_simp <;> with_reducible rfl) (by simp only [Act.put, List.setIfInBounds_toArray, List.set_cons_zero, List.set_cons_succ] <;> rfl) ?_
          refine Rest.take 17 70 rfl (by kernel_rfl) (by kernel_rfl) (by kernel_rfl) (fun _ _ _ h => h) (by rfl) (by rfl) (by intro x hx; go_simp <;> with_reducible rfl) (by simp only [Act.put, List.setIfInBounds_toArray, List.set_cons_zero, List.set_cons_succ] <;> rfl) ?_
          refine Rest.take 18 71 rfl (by kernel_rfl) (by kernel_rfl) (by kernel_rfl) (fun _ _ _ h => h) (by rfl) (by rfl) (by intro x hx; go_simp <;> with_reducible rfl) (by simp only [Act.put, List.setIfInBounds_toArray, List.set_cons_zero, List.set_cons_succ] <;> rfl) ?_
          refine Rest.take 19 72 rfl (by kernel_rfl) (by kernel_rfl) (by kernel_rfl) (fun _ _ _ h => h) (by rfl) (by rfl) (by intro x hx; go_simp <;> with_reducible rfl) (by simp only [Act.put, List.setIfInBounds_toArray, List.set_cons_zero, List.set_cons_succ] <;> rfl) ?_
          refine Rest.take 20 73 rfl (by kernel_rfl) (by kernel_rfl) (by kernel_rfl) (fun _ _ _ h => h) (by rfl) (by rfl) (by intro x hx; go_simp <;> with_reducible rfl) (by simp only [Act.put, List.setIfInBounds_toArray, List.set_cons_zero, List.set_cons_succ] <;> rfl) ?_
          refine Rest.take 21 74 (v := .pointer (some ⟨bL, oL + k * 19, none⟩)) rfl (by kernel_rfl) (by kernel_rfl) (by kernel_rfl) (fun _ _ _ h => h) (by rfl) (by rfl) (by intro x hx; have h1 := hkI; have h2 := hk0; have h3 := hcapL; go_simp <;> with_reducible rfl) (by simp only [Act.put, List.setIfInBounds_toArray, List.set_cons_zero, List.set_cons_succ] <;> rfl) ?_
          refine Rest.take 22 75 rfl (by kernel_rfl) (by kernel_rfl) (by kernel_rfl) (fun _ _ _ h => h) (by rfl) (by rfl) (by intro x hx; go_simp <;> with_reducible rfl) (by simp only [Act.put, List.setIfInBounds_toArray, List.set_cons_zero, List.set_cons_succ] <;> rfl) ?_
          refine Rest.take 23 76 (v := .int .i64 (d : Int)) rfl (by kernel_rfl) (by kernel_rfl) (by kernel_rfl) (fun _ _ _ h => h) (by rfl) (by rfl) (by intro x hx; have hc := CDK.out x (later HB hs hx); go_simp <;> with_reducible rfl) (by simp only [Act.put, List.setIfInBounds_toArray, List.set_cons_zero, List.set_cons_succ] <;> rfl) ?_
          refine Rest.take 24 77 rfl (by kernel_rfl) (by kernel_rfl) (by kernel_rfl) (fun _ _ _ h => h) (by rfl) (by rfl) (by intro x hx; go_simp <;> with_reducible rfl) (by simp only [Act.put, List.setIfInBounds_toArray, List.set_cons_zero, List.set_cons_succ] <;> rfl) ?_
          refine Rest.take 25 78 (v := .bool false) rfl (by kernel_rfl) (by kernel_rfl) (by kernel_rfl) (fun _ _ _ h => h) (by rfl) (by rfl) (by intro x hx; go_simp <;> (first | with_reducible rfl | assumption | (intro h9; exact absurd h9 h1) | simp | (trace_state; skip))) (by simp only [Act.put, List.setIfInBounds_toArray, List.set_cons_zero, List.set_cons_succ] <;> rfl) ?_
          refine Rest.take 26 79 rfl (by kernel_rfl) (by kernel_rfl) (by kernel_rfl) (fun _ _ _ h => h) (by rfl) (by rfl) (by intro x hx; go_simp <;> with_reducible rfl) (by simp only [Act.put, List.setIfInBounds_toArray, List.set_cons_zero, List.set_cons_succ] <;> rfl) ?_
          refine Rest.take 27 80 rfl (by kernel_rfl) (by kernel_rfl) (by kernel_rfl) (fun _ _ _ h => h) (by rfl) (by rfl) (by intro x hx; go_simp <;> with_reducible rfl) (by simp only [Act.put, List.setIfInBounds_toArray, List.set_cons_zero, List.set_cons_succ] <;> rfl) ?_
          refine Rest.take 28 81 rfl (by kernel_rfl) (by kernel_rfl) (by kernel_rfl) (fun _ _ _ h => h) (by rfl) (by rfl) (by intro x hx; go_simp <;> with_reducible rfl) (by simp only [Act.put, List.setIfInBounds_toArray, List.set_cons_zero, List.set_cons_succ] <;> rfl) ?_
          refine Rest.take 29 82 rfl (by kernel_rfl) (by kernel_rfl) (by kernel_rfl) (fun _ _ _ h => h) (by rfl) (by rfl) (by intro x hx; go_simp <;> with_reducible rfl) (by simp only [Act.put, List.setIfInBounds_toArray, List.set_cons_zero, List.set_cons_succ] <;> rfl) ?_
          refine Rest.take 30 83 (v := .pointer (some ⟨bL, oL + k * 19, none⟩)) rfl (by kernel_rfl) (by kernel_rfl) (by kernel_rfl) (fun _ _ _ h => h) (by rfl) (by rfl) (by intro x hx; have h1 := hkI; have h2 := hk0; have h3 := hcapL; go_simp <;> with_reducible rfl) (by simp only [Act.put, List.setIfInBounds_toArray, List.set_cons_zero, List.set_cons_succ] <;> rfl) ?_
          refine Rest.take 31 84 rfl (by kernel_rfl) (by kernel_rfl) (by kernel_rfl) (fun _ _ _ h => h) (by rfl) (by rfl) (by intro x hx; go_simp <;> with_reducible rfl) (by simp only [Act.put, List.setIfInBounds_toArray, List.set_cons_zero, List.set_cons_succ] <;> rfl) ?_
          refine Rest.take 32 85 rfl (by kernel_rfl) (by kernel_rfl) (by kernel_rfl) (fun _ _ _ h => h) (by rfl) (by rfl) (by intro x hx; have hc := CG.out x (later HB hs hx); go_simp <;> with_reducible rfl) (by simp only [Act.put, List.setIfInBounds_toArray, List.set_cons_zero, List.set_cons_succ] <;> rfl) ?_
          refine Rest.take 33 86 rfl (by kernel_rfl) (by kernel_rfl) (by kernel_rfl) (fun _ _ _ h => h) (by rfl) (by rfl) (by intro x hx; go_simp <;> with_reducible rfl) (by simp only [Act.put, List.setIfInBounds_toArray, List.set_cons_zero, List.set_cons_succ] <;> rfl) ?_
          refine Rest.take 34 87 rfl (by kernel_rfl) (by kernel_rfl) (by kernel_rfl) (fun _ _ _ h => h) (by rfl) (by rfl) (by intro x hx; have hc := C2.out x (later HB hs hx); go_simp <;> with_reducible rfl) (by simp only [Act.put, List.setIfInBounds_toArray, List.set_cons_zero, List.set_cons_succ] <;> rfl) ?_
          refine Rest.take 35 88 (v := .bool true) rfl (by kernel_rfl) (by kernel_rfl) (by kernel_rfl) (fun _ _ _ h => h) (by rfl) (by rfl) (by intro x hx; have h1 := hgg; (try clear hgp); go_simp <;> (first | with_reducible rfl | assumption | (intro h9; exact absurd h9 h1) | simp | (trace_state; skip))) (by simp only [Act.put, List.setIfInBounds_toArray, List.set_cons_zero, List.set_cons_succ] <;> rfl) ?_
          refine Rest.take 36 89 rfl (by kernel_rfl) (by kernel_rfl) (by kernel_rfl) (fun _ _ _ h => h) (by rfl) (by rfl) (by intro x hx; go_simp <;> with_reducible rfl) (by simp only [Act.put, List.setIfInBounds_toArray, List.set_cons_zero, List.set_cons_succ] <;> rfl) ?_
          refine Rest.take 37 90 rfl (by kernel_rfl) (by kernel_rfl) (by kernel_rfl) (fun _ _ _ h => h) (by rfl) (by rfl) (by intro x hx; go_simp <;> with_reducible rfl) (by simp only [Act.put, List.setIfInBounds_toArray, List.set_cons_zero, List.set_cons_succ] <;> rfl) ?_
          refine Rest.take 38 91 rfl (by kernel_rfl) (by kernel_rfl) (by kernel_rfl) (fun _ _ _ h => h) (by rfl) (by rfl) (by intro x hx; go_simp <;> with_reducible rfl) (by simp only [Act.put, List.setIfInBounds_toArray, List.set_cons_zero, List.set_cons_succ] <;> rfl) ?_
          refine Rest.take 39 92 (v := .pointer (some ⟨bL, oL + k * 19, none⟩)) rfl (by kernel_rfl) (by kernel_rfl) (by kernel_rfl) (fun _ _ _ h => h) (by rfl) (by rfl) (by intro x hx; have h1 := hkI; have h2 := hk0; have h3 := hcapL; go_simp <;> with_reducible rfl) (by simp only [Act.put, List.setIfInBounds_toArray, List.set_cons_zero, List.set_cons_succ] <;> rfl) ?_
          refine Rest.take 40 93 rfl (by kernel_rfl) (by kernel_rfl) (by kernel_rfl) (fun _ _ _ h => h) (by rfl) (by rfl) (by intro x hx; go_simp <;> with_reducible rfl) (by simp only [Act.put, List.setIfInBounds_toArray, List.set_cons_zero, List.set_cons_succ] <;> rfl) ?_
          refine Rest.take 41 94 rfl (by kernel_rfl) (by kernel_rfl) (by kernel_rfl) (fun _ _ _ h => h) (by rfl) (by rfl) (by intro x hx; have hc := CG.out x (later HB hs hx); go_simp <;> with_reducible rfl) (by simp only [Act.put, List.setIfInBounds_toArray, List.set_cons_zero, List.set_cons_succ] <;> rfl) ?_
          refine Rest.take 42 95 rfl (by kernel_rfl) (by kernel_rfl) (by kernel_rfl) (fun _ _ _ h => h) (by rfl) (by rfl) (by intro x hx; go_simp <;> with_reducible rfl) (by simp only [Act.put, List.setIfInBounds_toArray, List.set_cons_zero, List.set_cons_succ] <;> rfl) ?_
          refine Rest.take 43 96 rfl (by kernel_rfl) (by kernel_rfl) (by kernel_rfl) (fun _ _ _ h => h) (by rfl) (by rfl) (by intro x hx; have hc := C3.out x (later HB hs hx); go_simp <;> with_reducible rfl) (by simp only [Act.put, List.setIfInBounds_toArray, List.set_cons_zero, List.set_cons_succ] <;> rfl) ?_
          refine Rest.take 44 97 (v := .bool false) rfl (by kernel_rfl) (by kernel_rfl) (by kernel_rfl) (fun _ _ _ h => h) (by rfl) (by rfl) (by intro x hx; have h1 := HGP.out; go_simp <;> (first | with_reducible rfl | assumption | (intro h9; exact absurd h9 h1) | simp | (trace_state; skip))) (by simp only [Act.put, List.setIfInBounds_toArray, List.set_cons_zero, List.set_cons_succ] <;> rfl) ?_
          refine Rest.take 45 98 rfl (by kernel_rfl) (by kernel_rfl) (by kernel_rfl) (fun _ _ _ h => h) (by rfl) (by rfl) (by intro x hx; go_simp <;> with_reducible rfl) (by simp only [Act.put, List.setIfInBounds_toArray, List.set_cons_zero, List.set_cons_succ] <;> rfl) ?_
          refine Rest.take 46 99 rfl (by kernel_rfl) (by kernel_rfl) (by kernel_rfl) (fun _ _ _ h => h) (by rfl) (by rfl) (by intro x hx; go_simp <;> with_reducible rfl) (by simp only [Act.put, List.setIfInBounds_toArray, List.set_cons_zero, List.set_cons_succ] <;> rfl) ?_
          refine Rest.done (by kernel_rfl) ?_
          go_wp2
          go_roundw
          case rel => exact ⟨d + 1, by go_num, by omega, Lib.hid (HBW.out.trans (HB.out.mono HBW.out.size))⟩
          case measure => simp [intOf]; omega
    · have hdI : ¬ (d : Int) < nz1 := by omega
      obtain rfl : nz1 = d := by omega
      go_wp2
      go_ret
      exact ⟨rfl, HBw5.out.trans (HBW.out.mono HBw5.out.size)⟩
  ·
    refine Lin.begin ?_
    refine Lin.take 28 rfl rfl (by go_simp <;> with_reducible rfl) (by simp only [Act.put, List.setIfInBounds_toArray, List.set_cons_zero, List.set_cons_succ] <;> rfl) ?_
    refine Lin.take 29 (v := .bool true) rfl rfl (by have h1 := her0; go_simp <;> (first | with_reducible rfl | simp)) (by simp only [Act.put, List.setIfInBounds_toArray, List.set_cons_zero, List.set_cons_succ] <;> rfl) ?_
    refine Lin.done (hK _ _ ?_)
    refine wp_cond_true rfl ?_
    refine wp_seq_k (fun KE hKE => ?_)
    refine Lin.begin ?_
    refine Lin.take 4 (v := .bool true) rfl rfl (by go_simp <;> with_reducible rfl) (by simp only [Act.put, List.setIfInBounds_toArray, List.set_cons_zero, List.set_cons_succ] <;> rfl) ?_
    refine Lin.done (hKE _ _ ?_)
    refine wp_ret ?_
    (try simp only [Exit.then])
    refine bodyPost_ret (results_tmp rfl _ _ _) rfl ?_
    exact ⟨rfl, HBw5.out⟩

end Go.Proofs.Ytgpfjinkmagelaa
