/- LabelValid: for every two labels the law returns true. (Printed by lawvalid.py.) -/
import Derived.Test.YtjjknjkpkoeelaaAwake30
import Derived.Test.YtjjknjkpkoeelaaReadL
set_option linter.unusedVariables false
set_option linter.unusedSimpArgs false
namespace Go.Proofs.Ytjjknjkpkoeelaa
open Go Go.RowKit Go.Lib

theorem Lb.equal_refl (a : Lb) : a.equal a := ⟨rfl, rfl, rfl, ⟨rfl, rfl, rfl, rfl, rfl, rfl, rfl, rfl, rfl, rfl, rfl⟩, rfl, rfl, rfl, rfl⟩

set_option maxRecDepth 100000 in
set_option maxHeartbeats 3200000 in
theorem labelValid_walk (a : Lb) (ad : Option Addr) (nd c : Nat) (b : Lb) (ad' : Option Addr) (nd' c' : Nat) (w : World) (h : Sl w 1 ad nd c (bb a.dead)) (hna : a.num) (h' : Sl w 1 ad' nd' c' (bb b.dead)) (hnb : b.num) :
    Calls Try.prog 5 #[.agg (a.arrv ad nd c), .agg (b.arrv ad' nd' c')] w fun e w' => e = .returned (.bool true) ∧ Below w.heap.size w w' := by
  have HH := Lib.hid h
  have HH' := Lib.hid h'
  have HNA := Lib.hid hna
  have HNB := Lib.hid hnb
  have HN := Lib.hid (show nd = a.dead.length by have := h.len; rw [bb_length, Nat.mul_one] at this; omega)
  have HN' := Lib.hid (show nd' = b.dead.length by have := h'.len; rw [bb_length, Nat.mul_one] at this; omega)
  clear h h' hna hnb
  obtain ⟨C, hC⟩ : ∃ C, C = decide (cfgOk a.cd a.cw a.ct a.cs a.gr a.gb a.gt a.gs a.go a.ca a.cl) := ⟨_, rfl⟩
  obtain ⟨V, hV⟩ : ∃ V, V = decide a.valid := ⟨_, rfl⟩
  obtain ⟨E, hE⟩ : ∃ E, E = decide (a.equal b) := ⟨_, rfl⟩
  have HC := Lib.hid hC
  have HV := Lib.hid hV
  have HE := Lib.hid hE
  clear hC hV hE
  unfold Lb.arrv
  go_enter Try.func5, Try.ntmps5
  refine wp_seq_k (fun K hK => ?_)
  refine Lin.begin ?_
  refine Lin.takeW 2 rfl rfl (by go_simp; exact ⟨rfl, rfl⟩) (by simp only [Act.put, List.setIfInBounds_toArray, List.set_cons_zero, List.set_cons_succ] <;> rfl) ?_
  intro w1 hw1
  obtain ⟨g, hg⟩ : ∃ g, g = w.heap.size := ⟨_, rfl⟩
  have L1 : LbAt a ad nd c g w1 := by rw [hw1, hg]; exact LbAt.new a ad nd c 29 w
  have HB1 : Hid (Below w.heap.size w w1) := by rw [hw1]; exact Lib.hid ((Below.refl w.heap.size w).alloc (Nat.le_refl _) _)
  have hz1 : w.heap.size ≤ w1.heap.size := HB1.out.size
  have hg1 : g < w1.heap.size := by rw [hw1, hg]; simp
  rw [← hg]
  have HG := Lib.hid hg
  clear hw1 hg
  refine Lin.takeW 3 rfl rfl (by go_simp; exact ⟨rfl, rfl⟩) (by simp only [Act.put, List.setIfInBounds_toArray, List.set_cons_zero, List.set_cons_succ] <;> rfl) ?_
  intro w2 hw2
  obtain ⟨g', hg'⟩ : ∃ g', g' = w1.heap.size := ⟨_, rfl⟩
  have M2 : Hid (LbAt b ad' nd' c' g' w2) := by rw [hw2, hg']; exact Lib.hid (LbAt.new b ad' nd' c' 29 w1)
  have L2 : Hid (LbAt a ad nd c g w2) := Lib.hid (L1.below (by rw [hw2]; exact (Below.refl w1.heap.size w1).alloc (Nat.le_refl _) _) hg1)
  have HB2 : Hid (Below w.heap.size w w2) := by rw [hw2]; exact Lib.hid (HB1.out.alloc hz1 _)
  have hz2 : w.heap.size ≤ w2.heap.size := HB2.out.size
  rw [← hg']
  have HG' := Lib.hid hg'
  have hg2 : g < w2.heap.size := by rw [hw2]; simp; omega
  have hgg2 : g' < w2.heap.size := by rw [hw2, hg']; simp
  clear hw2 hg' L1
  refine Lin.take 4 rfl rfl (by go_simp <;> with_reducible rfl) (by simp only [Act.put, List.setIfInBounds_toArray, List.set_cons_zero, List.set_cons_succ] <;> rfl) ?_
  refine Lin.done (hK _ _ ?_)
  clear hK K
  refine wp_seq_k (fun K1 hK1 => ?_)
  refine wp_seq_k (fun K hK => ?_)
  refine Lin.begin ?_
  refine Lin.enter 5 rfl rfl (by go_simp <;> (first | exact ⟨rfl, rfl⟩ | rfl)) (awake_any w2) (by simp only [Act.put, List.setIfInBounds_toArray, List.set_cons_zero, List.set_cons_succ] <;> rfl) ?_
  intro w3 hb3
  have HB3 := Lib.hid (HB2.out.trans (hb3.mono hz2)); have L3 := Lib.hid (L2.out.below hb3 hg2); have M3 := Lib.hid (M2.out.below hb3 hgg2); have hg3 : g < w3.heap.size := Nat.lt_of_lt_of_le hg2 hb3.size; have hgg3 : g' < w3.heap.size := Nat.lt_of_lt_of_le hgg2 hb3.size
  clear hb3
  refine Lin.take 6 rfl rfl (by go_simp <;> with_reducible rfl) (by simp only [Act.put, List.setIfInBounds_toArray, List.set_cons_zero, List.set_cons_succ] <;> rfl) ?_
  refine Lin.done (hK _ _ ?_)
  refine wp_cond_false rfl ?_
  refine wp_skip ?_
  refine hK1 _ _ ?_
  clear hK1 K1 hK K
  refine wp_seq_k (fun K1 hK1 => ?_)
  refine wp_seq_k (fun K hK => ?_)
  refine Lin.begin ?_
  refine Lin.take 7 rfl rfl (by go_simp <;> with_reducible rfl) (by simp only [Act.put, List.setIfInBounds_toArray, List.set_cons_zero, List.set_cons_succ] <;> rfl) ?_
  refine Lin.take 8 rfl rfl (by have k15 := L3.out.k15; go_simp <;> with_reducible rfl) (by simp only [Act.put, List.setIfInBounds_toArray, List.set_cons_zero, List.set_cons_succ] <;> rfl) ?_
  refine Lin.take 9 rfl rfl (by go_simp <;> with_reducible rfl) (by simp only [Act.put, List.setIfInBounds_toArray, List.set_cons_zero, List.set_cons_succ] <;> rfl) ?_
  refine Lin.take 10 rfl rfl (by go_simp <;> with_reducible rfl) (by simp only [Act.put, List.setIfInBounds_toArray, List.set_cons_zero, List.set_cons_succ] <;> rfl) ?_
  refine Lin.bool 11 rfl rfl (by go_simp <;> with_reducible rfl) ?_
  intro B11 hB11 aa ha; simp only [Act.put, List.setIfInBounds_toArray, List.set_cons_zero, List.set_cons_succ] at ha; subst ha; replace hB11 := Lib.hid hB11
  refine Lin.may 12 (!B11) (by cases B11 <;> kernel_rfl) rfl (by intro hc; (try simp only [hc, gv_true]); go_simp <;> with_reducible rfl) (by simp only [Act.put, List.setIfInBounds_toArray, List.set_cons_zero, List.set_cons_succ] <;> rfl) ?_
  refine Lin.may 13 (!B11) (by cases B11 <;> kernel_rfl) rfl (by intro hc; (try simp only [hc, gv_true]); have k15 := M3.out.k15; go_simp <;> with_reducible rfl) (by simp only [Act.put, List.setIfInBounds_toArray, List.set_cons_zero, List.set_cons_succ] <;> rfl) ?_
  refine Lin.may 14 (!B11) (by cases B11 <;> kernel_rfl) rfl (by intro hc; (try simp only [hc, gv_true]); go_simp <;> with_reducible rfl) (by simp only [Act.put, List.setIfInBounds_toArray, List.set_cons_zero, List.set_cons_succ] <;> rfl) ?_
  refine Lin.may 15 (!B11) (by cases B11 <;> kernel_rfl) rfl (by intro hc; (try simp only [hc, gv_true]); go_simp <;> with_reducible rfl) (by simp only [Act.put, List.setIfInBounds_toArray, List.set_cons_zero, List.set_cons_succ] <;> rfl) ?_
  refine Lin.or 16 11 15 rfl rfl rfl rfl rfl ?_
  intro B16 hB16 aa ha; simp only [Act.put, List.setIfInBounds_toArray, List.set_cons_zero, List.set_cons_succ] at ha; subst ha; replace hB16 := Lib.hid hB16
  refine Lin.done (hK _ _ ?_)
  refine wp_cond_split rfl (fun ht => ?_) (fun hf => ?_)
  · refine wp_seq_k (fun K2 hK2 => ?_)
    refine Lin.begin ?_
    refine Lin.take 4 rfl rfl (by go_simp <;> with_reducible rfl) (by simp only [Act.put, List.setIfInBounds_toArray, List.set_cons_zero, List.set_cons_succ] <;> rfl) ?_
    refine Lin.done (hK2 _ _ ?_)
    refine wp_ret ?_
    simp only [Exit.then]
    refine bodyPost_ret (results_tmp rfl _ _ _) rfl ?_
    exact ⟨rfl, HB3.out⟩
  have hle : nd ≤ 100 ∧ nd' ≤ 100 := by
    rw [hB16.out, hB11.out] at hf
    simp only [Bool.or_eq_false_iff, decide_eq_false_iff_not] at hf
    omega
  have HOA : Hid a.ok := Lib.hid (HNA.out.ok (by have := HN.out; omega))
  have HOB : Hid b.ok := Lib.hid (HNB.out.ok (by have := HN'.out; omega))
  clear hf hle
  refine wp_skip ?_
  refine hK1 _ _ ?_
  clear hK1 K1 hK K
  refine wp_seq_k (fun K hK => ?_)
  have hKK := Lib.hid hK
  clear hK
  have HB : Hid (Below w3.heap.size w3 w3.drew) := Lib.hid (Below.refl _ _).drew
  have hs : w3.heap.size ≤ w3.drew.heap.size := Nat.le_refl _
  refine Rest.begin 29 (by kernel_rfl) (by kernel_rfl) ?_
  refine Rest.take 0 17 rfl (by kernel_rfl) (by kernel_rfl) (by kernel_rfl) (fun _ _ _ h => h) (by rfl) (by rfl) (by intro x hx; go_simp <;> with_reducible rfl) (by simp only [Act.put, List.setIfInBounds_toArray, List.set_cons_zero, List.set_cons_succ] <;> rfl) ?_
  refine Rest.take 1 18 rfl (by kernel_rfl) (by kernel_rfl) (by kernel_rfl) (fun _ _ _ h => h) (by rfl) (by rfl) (by intro x hx; obtain ⟨k0, k1, k2, k3, k4, k5, k6, k7, k8, k9, k10, k11, k12, k13, k14, k15, k16, k17, k18⟩ := L3.out.below (later HB hs hx) hg3; go_simp <;> with_reducible rfl) (by simp only [Act.put, List.setIfInBounds_toArray, List.set_cons_zero, List.set_cons_succ] <;> rfl) ?_
  refine Rest.take 3 20 rfl (by kernel_rfl) (by kernel_rfl) (by kernel_rfl) (fun _ _ _ h => h) (by rfl) (by rfl) (by intro x hx; go_simp <;> with_reducible rfl) (by simp only [Act.put, List.setIfInBounds_toArray, List.set_cons_zero, List.set_cons_succ] <;> rfl) ?_
  refine Rest.take 4 21 rfl (by kernel_rfl) (by kernel_rfl) (by kernel_rfl) (fun _ _ _ h => h) (by rfl) (by rfl) (by intro x hx; obtain ⟨k0, k1, k2, k3, k4, k5, k6, k7, k8, k9, k10, k11, k12, k13, k14, k15, k16, k17, k18⟩ := L3.out.below (later HB hs hx) hg3; go_simp <;> with_reducible rfl) (by simp only [Act.put, List.setIfInBounds_toArray, List.set_cons_zero, List.set_cons_succ] <;> rfl) ?_
  refine Rest.step 2 rfl (by kernel_rfl) (by rfl) (fun K hK => ?_)
  go_simp
  go_at_call 15
  refine (cfgValid_any a.cd a.cw a.ct a.cs a.gr a.gb a.gt a.gs a.go a.ca a.cl _ HOA.out.ca0 HOA.out.ca1 HOA.out.cl0 HOA.out.cl1).mono ?_
  rintro e wn ⟨rfl, hb⟩
  rw [← HC.out]
  refine hK.out _ _ hb ?_
  clear hK K
  have HB := Lib.hid (HB.out.trans (hb.mono hs))
  have hs := Nat.le_trans hs hb.size
  clear hb
  refine Rest.step 5 rfl (by kernel_rfl) (by rfl) (fun K hK => ?_)
  go_simp
  go_at_call 16
  refine (refCfgValid_any a.cd a.cw a.ct a.cs a.gr a.gb a.gt a.gs a.go a.ca a.cl _ HOA.out.ca0 HOA.out.ca1 HOA.out.cl0 HOA.out.cl1).mono ?_
  rintro e wn ⟨rfl, hb⟩
  rw [← HC.out]
  refine hK.out _ _ hb ?_
  clear hK K
  have HB := Lib.hid (HB.out.trans (hb.mono hs))
  have hs := Nat.le_trans hs hb.size
  clear hb
  refine Rest.take 6 23 rfl (by kernel_rfl) (by kernel_rfl) (by kernel_rfl) (fun _ _ _ h => h) (by rfl) (by rfl) (by intro x hx; go_simp <;> with_reducible rfl) (by simp only [Act.put, List.setIfInBounds_toArray, List.set_cons_zero, List.set_cons_succ] <;> rfl) ?_
  refine Rest.take 7 24 rfl (by kernel_rfl) (by kernel_rfl) (by kernel_rfl) (fun _ _ _ h => h) (by rfl) (by rfl) (by intro x hx; go_simp <;> with_reducible rfl) (by simp only [Act.put, List.setIfInBounds_toArray, List.set_cons_zero, List.set_cons_succ] <;> rfl) ?_
  refine Rest.takeMid 8 25 rfl (by kernel_rfl) (by kernel_rfl) (by kernel_rfl) 29 _ g 0 (a.arrv ad nd c).toList _ (fun _ _ _ h => h) (by rfl) rfl rfl (fun x hx => (L3.out.below (later HB hs hx) hg3).range) Try.underlying29 rfl (by kernel_rfl) rfl (by simp only [Act.put, List.setIfInBounds_toArray, List.set_cons_zero, List.set_cons_succ] <;> rfl) ?_
  refine Rest.takeMid 10 27 rfl (by kernel_rfl) (by kernel_rfl) (by kernel_rfl) 29 _ g 0 (a.arrv ad nd c).toList _ (fun _ _ _ h => h) (by rfl) rfl rfl (fun x hx => (L3.out.below (later HB hs hx) hg3).range) Try.underlying29 rfl (by kernel_rfl) rfl (by simp only [Act.put, List.setIfInBounds_toArray, List.set_cons_zero, List.set_cons_succ] <;> rfl) ?_
  refine Rest.step 9 rfl (by kernel_rfl) (by rfl) (fun K hK => ?_)
  go_simp
  go_at_call 17
  refine (valid_any a ad nd c _ (HH.out.below (HB3.out.trans (HB.out.mono HB3.out.size))) HOA.out).mono ?_
  rintro e wn ⟨rfl, hb⟩
  rw [← HV.out]
  refine hK.out _ _ hb ?_
  clear hK K
  have HB := Lib.hid (HB.out.trans (hb.mono hs))
  have hs := Nat.le_trans hs hb.size
  clear hb
  refine Rest.step 11 rfl (by kernel_rfl) (by rfl) (fun K hK => ?_)
  go_simp
  go_at_call 18
  refine (refValid_any a ad nd c _ (HH.out.below (HB3.out.trans (HB.out.mono HB3.out.size))) HOA.out).mono ?_
  rintro e wn ⟨rfl, hb⟩
  rw [← HV.out]
  refine hK.out _ _ hb ?_
  clear hK K
  have HB := Lib.hid (HB.out.trans (hb.mono hs))
  have hs := Nat.le_trans hs hb.size
  clear hb
  refine Rest.take 12 29 rfl (by kernel_rfl) (by kernel_rfl) (by kernel_rfl) (fun _ _ _ h => h) (by rfl) (by rfl) (by intro x hx; go_simp <;> with_reducible rfl) (by simp only [Act.put, List.setIfInBounds_toArray, List.set_cons_zero, List.set_cons_succ] <;> rfl) ?_
  refine Rest.take 13 30 rfl (by kernel_rfl) (by kernel_rfl) (by kernel_rfl) (fun _ _ _ h => h) (by rfl) (by rfl) (by intro x hx; go_simp <;> with_reducible rfl) (by simp only [Act.put, List.setIfInBounds_toArray, List.set_cons_zero, List.set_cons_succ] <;> rfl) ?_
  refine Rest.take 14 31 rfl (by kernel_rfl) (by kernel_rfl) (by kernel_rfl) (fun _ _ _ h => h) (by rfl) (by rfl) (by intro x hx; go_simp <;> with_reducible rfl) (by simp only [Act.put, List.setIfInBounds_toArray, List.set_cons_zero, List.set_cons_succ] <;> rfl) ?_
  refine Rest.takeMid 15 32 rfl (by kernel_rfl) (by kernel_rfl) (by kernel_rfl) 29 _ g 0 (a.arrv ad nd c).toList _ (fun _ _ _ h => h) (by rfl) rfl rfl (fun x hx => (L3.out.below (later HB hs hx) hg3).range) Try.underlying29 rfl (by kernel_rfl) rfl (by simp only [Act.put, List.setIfInBounds_toArray, List.set_cons_zero, List.set_cons_succ] <;> rfl) ?_
  refine Rest.takeMid 16 33 rfl (by kernel_rfl) (by kernel_rfl) (by kernel_rfl) 29 _ g' 0 (b.arrv ad' nd' c').toList _ (fun _ _ _ h => h) (by rfl) rfl rfl (fun x hx => (M3.out.below (later HB hs hx) hgg3).range) Try.underlying29 rfl (by kernel_rfl) rfl (by simp only [Act.put, List.setIfInBounds_toArray, List.set_cons_zero, List.set_cons_succ] <;> rfl) ?_
  refine Rest.takeMid 18 35 rfl (by kernel_rfl) (by kernel_rfl) (by kernel_rfl) 29 _ g 0 (a.arrv ad nd c).toList _ (fun _ _ _ h => h) (by rfl) rfl rfl (fun x hx => (L3.out.below (later HB hs hx) hg3).range) Try.underlying29 rfl (by kernel_rfl) rfl (by simp only [Act.put, List.setIfInBounds_toArray, List.set_cons_zero, List.set_cons_succ] <;> rfl) ?_
  refine Rest.takeMid 19 36 rfl (by kernel_rfl) (by kernel_rfl) (by kernel_rfl) 29 _ g' 0 (b.arrv ad' nd' c').toList _ (fun _ _ _ h => h) (by rfl) rfl rfl (fun x hx => (M3.out.below (later HB hs hx) hgg3).range) Try.underlying29 rfl (by kernel_rfl) rfl (by simp only [Act.put, List.setIfInBounds_toArray, List.set_cons_zero, List.set_cons_succ] <;> rfl) ?_
  refine Rest.step 17 rfl (by kernel_rfl) (by rfl) (fun K hK => ?_)
  go_simp
  go_at_call 19
  refine (equal_any a b ad ad' nd nd' c c' _ (HH.out.below (HB3.out.trans (HB.out.mono HB3.out.size))) (HH'.out.below (HB3.out.trans (HB.out.mono HB3.out.size))) HOA.out.short).mono ?_
  rintro e wn ⟨rfl, hb⟩
  rw [← HE.out]
  refine hK.out _ _ hb ?_
  clear hK K
  have HB := Lib.hid (HB.out.trans (hb.mono hs))
  have hs := Nat.le_trans hs hb.size
  clear hb
  refine Rest.step 20 rfl (by kernel_rfl) (by rfl) (fun K hK => ?_)
  go_simp
  go_at_call 20
  refine (refEqual_any a b ad ad' nd nd' c c' _ (HH.out.below (HB3.out.trans (HB.out.mono HB3.out.size))) (HH'.out.below (HB3.out.trans (HB.out.mono HB3.out.size))) HOA.out.short).mono ?_
  rintro e wn ⟨rfl, hb⟩
  rw [← HE.out]
  refine hK.out _ _ hb ?_
  clear hK K
  have HB := Lib.hid (HB.out.trans (hb.mono hs))
  have hs := Nat.le_trans hs hb.size
  clear hb
  refine Rest.take 21 38 rfl (by kernel_rfl) (by kernel_rfl) (by kernel_rfl) (fun _ _ _ h => h) (by rfl) (by rfl) (by intro x hx; go_simp <;> with_reducible rfl) (by simp only [Act.put, List.setIfInBounds_toArray, List.set_cons_zero, List.set_cons_succ] <;> rfl) ?_
  refine Rest.take 22 39 rfl (by kernel_rfl) (by kernel_rfl) (by kernel_rfl) (fun _ _ _ h => h) (by rfl) (by rfl) (by intro x hx; go_simp <;> with_reducible rfl) (by simp only [Act.put, List.setIfInBounds_toArray, List.set_cons_zero, List.set_cons_succ] <;> rfl) ?_
  refine Rest.take 23 40 rfl (by kernel_rfl) (by kernel_rfl) (by kernel_rfl) (fun _ _ _ h => h) (by rfl) (by rfl) (by intro x hx; go_simp <;> with_reducible rfl) (by simp only [Act.put, List.setIfInBounds_toArray, List.set_cons_zero, List.set_cons_succ] <;> rfl) ?_
  refine Rest.takeMid 24 41 rfl (by kernel_rfl) (by kernel_rfl) (by kernel_rfl) 29 _ g 0 (a.arrv ad nd c).toList _ (fun _ _ _ h => h) (by rfl) rfl rfl (fun x hx => (L3.out.below (later HB hs hx) hg3).range) Try.underlying29 rfl (by kernel_rfl) rfl (by simp only [Act.put, List.setIfInBounds_toArray, List.set_cons_zero, List.set_cons_succ] <;> rfl) ?_
  refine Rest.takeMid 25 42 rfl (by kernel_rfl) (by kernel_rfl) (by kernel_rfl) 29 _ g 0 (a.arrv ad nd c).toList _ (fun _ _ _ h => h) (by rfl) rfl rfl (fun x hx => (L3.out.below (later HB hs hx) hg3).range) Try.underlying29 rfl (by kernel_rfl) rfl (by simp only [Act.put, List.setIfInBounds_toArray, List.set_cons_zero, List.set_cons_succ] <;> rfl) ?_
  refine Rest.step 26 rfl (by kernel_rfl) (by rfl) (fun K hK => ?_)
  go_simp
  go_at_call 19
  refine (equal_any a a ad ad nd nd c c _ (HH.out.below (HB3.out.trans (HB.out.mono HB3.out.size))) (HH.out.below (HB3.out.trans (HB.out.mono HB3.out.size))) HOA.out.short).mono ?_
  rintro e wn ⟨rfl, hb⟩
  rw [decide_eq_true (Lb.equal_refl a)]
  refine hK.out _ _ hb ?_
  clear hK K
  have HB := Lib.hid (HB.out.trans (hb.mono hs))
  have hs := Nat.le_trans hs hb.size
  clear hb
  refine Rest.take 27 44 rfl (by kernel_rfl) (by kernel_rfl) (by kernel_rfl) (fun _ _ _ h => h) (by rfl) (by rfl) (by intro x hx; go_simp <;> with_reducible rfl) (by simp only [Act.put, List.setIfInBounds_toArray, List.set_cons_zero, List.set_cons_succ] <;> rfl) ?_
  refine Rest.take 28 4 rfl (by kernel_rfl) (by kernel_rfl) (by kernel_rfl) (fun _ _ _ h => h) (by rfl) (by rfl) (by intro x hx; go_simp <;> with_reducible rfl) (by simp only [Act.put, List.setIfInBounds_toArray, List.set_cons_zero, List.set_cons_succ] <;> rfl) ?_
  refine Rest.done (by kernel_rfl) ?_
  refine hKK.out _ _ ?_
  refine wp_ret ?_
  refine bodyPost_ret (results_tmp rfl _ _ _) rfl ?_
  exact ⟨rfl, HB3.out.trans (HB.out.mono HB3.out.size)⟩

end Go.Proofs.Ytjjknjkpkoeelaa
