/- Labels: Areas of the code and of the reference. (Printed by areas.py.) -/
import Derived.Test.YtjjknjkpkoeelaaLblE
import Derived.Test.YtjjknjkpkoeelaaSteps
set_option linter.unusedVariables false
set_option linter.unusedSimpArgs false
namespace Go.Proofs.Ytjjknjkpkoeelaa
open Go Go.RowKit Go.Lib

theorem rangeAt_below {w w' : World} {b o B : Nat} {cs : List Value} (h : w.rangeAt b o cs) (hb : Below B w w') (hlt : b < B) : w'.rangeAt b o cs := fun j v hv => below_cell hb hlt (h j v hv)
theorem rangeAt_new (w : World) (cs : Array Value) (T : TypeId) : (w.alloc (.cells cs T)).rangeAt w.heap.size 0 cs.toList := by
  intro j v hv
  rw [Nat.zero_add, cell_of_row _ _ _ _ _ _ (heap_alloc_new w _)]
  simpa using hv
theorem results_tmp4 {fn : Func} {t u x y : Tmp} (h : fn.results = #[.tmp t, .tmp u, .tmp x, .tmp y]) (tmps : Array Value) (P : Program) (w : World) :
    (results fn tmps).run P w = .ok (.tuple #[tmps.getD t undef, tmps.getD u undef, tmps.getD x undef, tmps.getD y undef]) w := by
  simp [results, h]

def areaRes (l : Lb) (gen : Int) : Value := if l.cfg then .tuple #[.int .i64 (6 * (gen % 2)), .int .i64 (12 + gen % 2 * l.ca), .int .i64 (12 + 2 * l.ca), .int .i64 0] else .tuple #[.int .i64 0, .int .i64 0, .int .i64 0, .int .i64 1]
theorem areaRes_no {l : Lb} {gen : Int} (h : ¬ l.cfg) : areaRes l gen = .tuple #[.int .i64 0, .int .i64 0, .int .i64 0, .int .i64 1] := by unfold areaRes; rw [if_neg h]
theorem areaRes_ok {l : Lb} {gen od : Int} (h : l.cfg) (ho : gen % 2 = od) : areaRes l gen = .tuple #[.int .i64 (6 * od), .int .i64 (12 + od * l.ca), .int .i64 (12 + 2 * l.ca), .int .i64 0] := by unfold areaRes; rw [if_pos h, ho]

set_option maxRecDepth 100000 in
set_option maxHeartbeats 1600000 in
theorem areas_any (l : Lb) (gen : Int) (w : World) (ha : -9223372036854775808 ≤ l.ca ∧ l.ca ≤ 9223372036854775807 ∧ -9223372036854775808 ≤ l.cl ∧ l.cl ≤ 9223372036854775807) (hgen0 : 0 ≤ gen) (hgen1 : gen < 18446744073709551616) :
    Calls Try.prog 13 #[.agg l.cfgv, .int .u64 gen] w fun e w' => e = .returned (areaRes l gen) ∧ Below w.heap.size w w' := by
  have HA := Lib.hid ha
  have HG0 := Lib.hid hgen0
  clear ha
  go_enter Try.func13, Try.ntmps13
  refine wp_seq_k (fun K hK => ?_)
  refine Lin.begin ?_
  refine Lin.takeW 2 rfl rfl (by go_simp; exact ⟨rfl, rfl⟩) (by simp only [Act.put, List.setIfInBounds_toArray, List.set_cons_zero, List.set_cons_succ] <;> rfl) ?_
  intro w1 hw1
  obtain ⟨g, hg⟩ : ∃ g, g = w.heap.size := ⟨_, rfl⟩
  have HR1 : Hid (w1.rangeAt g 0 l.cfgv.toList) := by rw [hw1, hg]; exact Lib.hid (rangeAt_new _ _ _)
  have HB1 : Hid (Below w.heap.size w w1) := by rw [hw1]; exact Lib.hid ((Below.refl w.heap.size w).alloc (Nat.le_refl _) _)
  have hz1 : w.heap.size ≤ w1.heap.size := HB1.out.size
  have hg1 : g < w1.heap.size := by rw [hw1, hg]; simp
  rw [← hg]
  have HG := Lib.hid hg
  obtain ⟨V, hV⟩ : ∃ V, V = decide l.cfg := ⟨_, rfl⟩
  have HVB := Lib.hid hV
  clear hw1 hg hV
  refine Lin.take 4 rfl rfl (by go_simp <;> with_reducible rfl) (by simp only [Act.put, List.setIfInBounds_toArray, List.set_cons_zero, List.set_cons_succ] <;> rfl) ?_
  refine Lin.take 5 rfl rfl (by go_simp <;> with_reducible rfl) (by simp only [Act.put, List.setIfInBounds_toArray, List.set_cons_zero, List.set_cons_succ] <;> rfl) ?_
  refine Lin.take 6 rfl rfl (by go_simp <;> with_reducible rfl) (by simp only [Act.put, List.setIfInBounds_toArray, List.set_cons_zero, List.set_cons_succ] <;> rfl) ?_
  refine Lin.take 7 rfl rfl (by go_simp <;> with_reducible rfl) (by simp only [Act.put, List.setIfInBounds_toArray, List.set_cons_zero, List.set_cons_succ] <;> rfl) ?_
  refine Lin.done (hK _ _ ?_)
  clear hK K
  refine wp_seq_k (fun K1 hK1 => ?_)
  refine wp_seq_k (fun K hK => ?_)
  refine Lin.begin ?_
  refine Lin.mid 9 true 26 _ g 0 l.cfgv.toList _ (by kernel_rfl) rfl rfl (fun _ => rfl) HR1.out Try.underlying26 rfl (by kernel_rfl) (by simp only [Act.put, List.setIfInBounds_toArray, List.set_cons_zero, List.set_cons_succ] <;> rfl) ?_
  refine Lin.enter 10 rfl rfl (by simp only [gv_true]; go_simp <;> (first | exact ⟨rfl, rfl⟩ | rfl)) (v := .bool V) (by rw [HVB.out]; exact cfgValid_any l.cd l.cw l.ct l.cs l.gr l.gb l.gt l.gs l.go l.ca l.cl _ HA.out.1 HA.out.2.1 HA.out.2.2.1 HA.out.2.2.2) (by simp only [Act.put, List.setIfInBounds_toArray, List.set_cons_zero, List.set_cons_succ] <;> rfl) ?_
  intro w2 hb2
  have HB2 := Lib.hid (HB1.out.trans (hb2.mono hz1)); have HR2 := Lib.hid (rangeAt_below HR1.out hb2 hg1); have hg2 : g < w2.heap.size := Nat.lt_of_lt_of_le hg1 hb2.size
  clear hb2
  refine Lin.take 11 (v := .bool (!V)) rfl rfl (by go_simp <;> with_reducible rfl) (by simp only [Act.put, List.setIfInBounds_toArray, List.set_cons_zero, List.set_cons_succ] <;> rfl) ?_
  refine Lin.done (hK _ _ ?_)
  refine wp_cond_split rfl (fun ht => ?_) (fun hf => ?_)
  · refine wp_seq_k (fun K2 hK2 => ?_)
    refine Lin.begin ?_
    refine Lin.take 4 rfl rfl (by go_simp <;> with_reducible rfl) (by simp only [Act.put, List.setIfInBounds_toArray, List.set_cons_zero, List.set_cons_succ] <;> rfl) ?_
    refine Lin.take 5 rfl rfl (by go_simp <;> with_reducible rfl) (by simp only [Act.put, List.setIfInBounds_toArray, List.set_cons_zero, List.set_cons_succ] <;> rfl) ?_
    refine Lin.take 6 rfl rfl (by go_simp <;> with_reducible rfl) (by simp only [Act.put, List.setIfInBounds_toArray, List.set_cons_zero, List.set_cons_succ] <;> rfl) ?_
    refine Lin.take 7 rfl rfl (by go_simp <;> with_reducible rfl) (by simp only [Act.put, List.setIfInBounds_toArray, List.set_cons_zero, List.set_cons_succ] <;> rfl) ?_
    refine Lin.done (hK2 _ _ ?_)
    refine wp_ret ?_
    simp only [Exit.then]
    refine bodyPost_ret (results_tmp4 rfl _ _ _) rfl ?_
    have hnv : ¬ l.cfg := by
      rw [HVB.out] at ht
      simpa using ht
    refine ⟨?_, HB2.out⟩
    rw [areaRes_no hnv]
    rfl
  have HV : Hid l.cfg := by
    rw [HVB.out] at hf
    exact Lib.hid (by simpa using hf)
  have HCA : Hid (1 ≤ l.ca ∧ l.ca ≤ 16384) := Lib.hid (by have := HV.out; unfold Lb.cfg cfgOk geoOk at this; omega)
  have HC9 : Hid (w2.cell? ⟨g, 9, none⟩ = some (.int .i64 l.ca)) := Lib.hid (HR2.out 9 _ rfl)
  clear hf HVB
  refine wp_skip ?_
  refine hK1 _ _ ?_
  clear hK1 K1 hK K
  rcases (show gen % 2 = 0 ∨ gen % 2 = 1 by omega) with hod | hod
  · have HB : Hid (Below w2.heap.size w2 w2.drew) := Lib.hid (Below.refl _ _).drew
    have hs : w2.heap.size ≤ w2.drew.heap.size := Nat.le_refl _
    refine wp_seq_k (fun K4 hK4 => ?_)
    refine Lin.begin ?_
    refine Lin.take 12 rfl rfl (by go_simp <;> with_reducible rfl) (by simp only [Act.put, List.setIfInBounds_toArray, List.set_cons_zero, List.set_cons_succ] <;> rfl) ?_
    refine Lin.take 13 (v := .int .u64 0) rfl rfl (by have h0 := hod; have h1 := HG0.out; go_simp <;> (first | omega | (rw [Int.tmod_eq_emod_of_nonneg (by omega)]; omega))) (by simp only [Act.put, List.setIfInBounds_toArray, List.set_cons_zero, List.set_cons_succ] <;> rfl) ?_
    refine Lin.take 14 (v := .int .i64 0) rfl rfl (by go_simp <;> exact IntWalk.i64_in _ (by omega)) (by simp only [Act.put, List.setIfInBounds_toArray, List.set_cons_zero, List.set_cons_succ] <;> rfl) ?_
    refine Lin.take 8 rfl rfl (by go_simp <;> with_reducible rfl) (by simp only [Act.put, List.setIfInBounds_toArray, List.set_cons_zero, List.set_cons_succ] <;> rfl) ?_
    refine Lin.done (hK4 _ _ ?_)
    refine wp_seq_k (fun K hK => ?_)
    have hKK := Lib.hid hK
    clear hK
    refine Rest.begin 15 (by kernel_rfl) (by kernel_rfl) ?_
    refine Rest.take 0 15 rfl (by kernel_rfl) (by kernel_rfl) (by kernel_rfl) (fun _ _ _ h => h) (by rfl) (by rfl) (by intro x hx; go_simp <;> with_reducible rfl) (by simp only [Act.put, List.setIfInBounds_toArray, List.set_cons_zero, List.set_cons_succ] <;> rfl) ?_
    refine Rest.take 1 16 (v := .int .i64 0) rfl (by kernel_rfl) (by kernel_rfl) (by kernel_rfl) (fun _ _ _ h => h) (by rfl) (by rfl) (by intro x hx; have h0 := HCA.out; go_simp <;> (first | rfl | omega | (rw [IntWalk.i64_in _ (by omega)]; done) | (rw [IntWalk.i64_in _ (by omega)]; omega))) (by simp only [Act.put, List.setIfInBounds_toArray, List.set_cons_zero, List.set_cons_succ] <;> rfl) ?_
    refine Rest.take 2 17 rfl (by kernel_rfl) (by kernel_rfl) (by kernel_rfl) (fun _ _ _ h => h) (by rfl) (by rfl) (by intro x hx; go_simp <;> with_reducible rfl) (by simp only [Act.put, List.setIfInBounds_toArray, List.set_cons_zero, List.set_cons_succ] <;> rfl) ?_
    refine Rest.take 3 18 rfl (by kernel_rfl) (by kernel_rfl) (by kernel_rfl) (fun _ _ _ h => h) (by rfl) (by rfl) (by intro x hx; go_simp <;> with_reducible rfl) (by simp only [Act.put, List.setIfInBounds_toArray, List.set_cons_zero, List.set_cons_succ] <;> rfl) ?_
    refine Rest.take 4 19 rfl (by kernel_rfl) (by kernel_rfl) (by kernel_rfl) (fun _ _ _ h => h) (by rfl) (by rfl) (by intro x hx; have hc := below_cell (later HB hs hx) hg2 HC9.out; go_simp <;> with_reducible rfl) (by simp only [Act.put, List.setIfInBounds_toArray, List.set_cons_zero, List.set_cons_succ] <;> rfl) ?_
    refine Rest.take 5 20 (v := .int .i64 0) rfl (by kernel_rfl) (by kernel_rfl) (by kernel_rfl) (fun _ _ _ h => h) (by rfl) (by rfl) (by intro x hx; have h0 := HCA.out; go_simp <;> (first | rfl | omega | (rw [IntWalk.i64_in _ (by omega)]; done) | (rw [IntWalk.i64_in _ (by omega)]; omega))) (by simp only [Act.put, List.setIfInBounds_toArray, List.set_cons_zero, List.set_cons_succ] <;> rfl) ?_
    refine Rest.take 6 21 (v := .int .i64 (12)) rfl (by kernel_rfl) (by kernel_rfl) (by kernel_rfl) (fun _ _ _ h => h) (by rfl) (by rfl) (by intro x hx; have h0 := HCA.out; go_simp <;> (first | rfl | omega | (rw [IntWalk.i64_in _ (by omega)]; done) | (rw [IntWalk.i64_in _ (by omega)]; omega))) (by simp only [Act.put, List.setIfInBounds_toArray, List.set_cons_zero, List.set_cons_succ] <;> rfl) ?_
    refine Rest.take 7 22 rfl (by kernel_rfl) (by kernel_rfl) (by kernel_rfl) (fun _ _ _ h => h) (by rfl) (by rfl) (by intro x hx; go_simp <;> with_reducible rfl) (by simp only [Act.put, List.setIfInBounds_toArray, List.set_cons_zero, List.set_cons_succ] <;> rfl) ?_
    refine Rest.take 8 23 rfl (by kernel_rfl) (by kernel_rfl) (by kernel_rfl) (fun _ _ _ h => h) (by rfl) (by rfl) (by intro x hx; have hc := below_cell (later HB hs hx) hg2 HC9.out; go_simp <;> with_reducible rfl) (by simp only [Act.put, List.setIfInBounds_toArray, List.set_cons_zero, List.set_cons_succ] <;> rfl) ?_
    refine Rest.take 9 24 (v := .int .i64 (2 * l.ca)) rfl (by kernel_rfl) (by kernel_rfl) (by kernel_rfl) (fun _ _ _ h => h) (by rfl) (by rfl) (by intro x hx; have h0 := HCA.out; go_simp <;> (first | rfl | omega | (rw [IntWalk.i64_in _ (by omega)]; done) | (rw [IntWalk.i64_in _ (by omega)]; omega))) (by simp only [Act.put, List.setIfInBounds_toArray, List.set_cons_zero, List.set_cons_succ] <;> rfl) ?_
    refine Rest.take 10 25 (v := .int .i64 (12 + 2 * l.ca)) rfl (by kernel_rfl) (by kernel_rfl) (by kernel_rfl) (fun _ _ _ h => h) (by rfl) (by rfl) (by intro x hx; have h0 := HCA.out; go_simp <;> (first | rfl | omega | (rw [IntWalk.i64_in _ (by omega)]; done) | (rw [IntWalk.i64_in _ (by omega)]; omega))) (by simp only [Act.put, List.setIfInBounds_toArray, List.set_cons_zero, List.set_cons_succ] <;> rfl) ?_
    refine Rest.take 11 4 rfl (by kernel_rfl) (by kernel_rfl) (by kernel_rfl) (fun _ _ _ h => h) (by rfl) (by rfl) (by intro x hx; go_simp <;> with_reducible rfl) (by simp only [Act.put, List.setIfInBounds_toArray, List.set_cons_zero, List.set_cons_succ] <;> rfl) ?_
    refine Rest.take 12 5 rfl (by kernel_rfl) (by kernel_rfl) (by kernel_rfl) (fun _ _ _ h => h) (by rfl) (by rfl) (by intro x hx; go_simp <;> with_reducible rfl) (by simp only [Act.put, List.setIfInBounds_toArray, List.set_cons_zero, List.set_cons_succ] <;> rfl) ?_
    refine Rest.take 13 6 rfl (by kernel_rfl) (by kernel_rfl) (by kernel_rfl) (fun _ _ _ h => h) (by rfl) (by rfl) (by intro x hx; go_simp <;> with_reducible rfl) (by simp only [Act.put, List.setIfInBounds_toArray, List.set_cons_zero, List.set_cons_succ] <;> rfl) ?_
    refine Rest.take 14 7 rfl (by kernel_rfl) (by kernel_rfl) (by kernel_rfl) (fun _ _ _ h => h) (by rfl) (by rfl) (by intro x hx; go_simp <;> with_reducible rfl) (by simp only [Act.put, List.setIfInBounds_toArray, List.set_cons_zero, List.set_cons_succ] <;> rfl) ?_
    refine Rest.done (by kernel_rfl) ?_
    refine hKK.out _ _ ?_
    refine wp_ret ?_
    refine bodyPost_ret (results_tmp4 rfl _ _ _) rfl ?_
    refine ⟨?_, HB2.out.trans (HB.out.mono HB2.out.size)⟩
    have he : areaRes l gen = .tuple #[.int .i64 0, .int .i64 (12), .int .i64 (12 + 2 * l.ca), .int .i64 0] := by rw [areaRes_ok HV.out hod]; simp
    rw [he]
    rfl
  · have HB : Hid (Below w2.heap.size w2 w2.drew) := Lib.hid (Below.refl _ _).drew
    have hs : w2.heap.size ≤ w2.drew.heap.size := Nat.le_refl _
    refine wp_seq_k (fun K4 hK4 => ?_)
    refine Lin.begin ?_
    refine Lin.take 12 rfl rfl (by go_simp <;> with_reducible rfl) (by simp only [Act.put, List.setIfInBounds_toArray, List.set_cons_zero, List.set_cons_succ] <;> rfl) ?_
    refine Lin.take 13 (v := .int .u64 1) rfl rfl (by have h0 := hod; have h1 := HG0.out; go_simp <;> (first | omega | (rw [Int.tmod_eq_emod_of_nonneg (by omega)]; omega))) (by simp only [Act.put, List.setIfInBounds_toArray, List.set_cons_zero, List.set_cons_succ] <;> rfl) ?_
    refine Lin.take 14 (v := .int .i64 1) rfl rfl (by go_simp <;> exact IntWalk.i64_in _ (by omega)) (by simp only [Act.put, List.setIfInBounds_toArray, List.set_cons_zero, List.set_cons_succ] <;> rfl) ?_
    refine Lin.take 8 rfl rfl (by go_simp <;> with_reducible rfl) (by simp only [Act.put, List.setIfInBounds_toArray, List.set_cons_zero, List.set_cons_succ] <;> rfl) ?_
    refine Lin.done (hK4 _ _ ?_)
    refine wp_seq_k (fun K hK => ?_)
    have hKK := Lib.hid hK
    clear hK
    refine Rest.begin 15 (by kernel_rfl) (by kernel_rfl) ?_
    refine Rest.take 0 15 rfl (by kernel_rfl) (by kernel_rfl) (by kernel_rfl) (fun _ _ _ h => h) (by rfl) (by rfl) (by intro x hx; go_simp <;> with_reducible rfl) (by simp only [Act.put, List.setIfInBounds_toArray, List.set_cons_zero, List.set_cons_succ] <;> rfl) ?_
    refine Rest.take 1 16 (v := .int .i64 6) rfl (by kernel_rfl) (by kernel_rfl) (by kernel_rfl) (fun _ _ _ h => h) (by rfl) (by rfl) (by intro x hx; have h0 := HCA.out; go_simp <;> (first | rfl | omega | (rw [IntWalk.i64_in _ (by omega)]; done) | (rw [IntWalk.i64_in _ (by omega)]; omega))) (by simp only [Act.put, List.setIfInBounds_toArray, List.set_cons_zero, List.set_cons_succ] <;> rfl) ?_
    refine Rest.take 2 17 rfl (by kernel_rfl) (by kernel_rfl) (by kernel_rfl) (fun _ _ _ h => h) (by rfl) (by rfl) (by intro x hx; go_simp <;> with_reducible rfl) (by simp only [Act.put, List.setIfInBounds_toArray, List.set_cons_zero, List.set_cons_succ] <;> rfl) ?_
    refine Rest.take 3 18 rfl (by kernel_rfl) (by kernel_rfl) (by kernel_rfl) (fun _ _ _ h => h) (by rfl) (by rfl) (by intro x hx; go_simp <;> with_reducible rfl) (by simp only [Act.put, List.setIfInBounds_toArray, List.set_cons_zero, List.set_cons_succ] <;> rfl) ?_
    refine Rest.take 4 19 rfl (by kernel_rfl) (by kernel_rfl) (by kernel_rfl) (fun _ _ _ h => h) (by rfl) (by rfl) (by intro x hx; have hc := below_cell (later HB hs hx) hg2 HC9.out; go_simp <;> with_reducible rfl) (by simp only [Act.put, List.setIfInBounds_toArray, List.set_cons_zero, List.set_cons_succ] <;> rfl) ?_
    refine Rest.take 5 20 (v := .int .i64 l.ca) rfl (by kernel_rfl) (by kernel_rfl) (by kernel_rfl) (fun _ _ _ h => h) (by rfl) (by rfl) (by intro x hx; have h0 := HCA.out; go_simp <;> (first | rfl | omega | (rw [IntWalk.i64_in _ (by omega)]; done) | (rw [IntWalk.i64_in _ (by omega)]; omega))) (by simp only [Act.put, List.setIfInBounds_toArray, List.set_cons_zero, List.set_cons_succ] <;> rfl) ?_
    refine Rest.take 6 21 (v := .int .i64 (12 + l.ca)) rfl (by kernel_rfl) (by kernel_rfl) (by kernel_rfl) (fun _ _ _ h => h) (by rfl) (by rfl) (by intro x hx; have h0 := HCA.out; go_simp <;> (first | rfl | omega | (rw [IntWalk.i64_in _ (by omega)]; done) | (rw [IntWalk.i64_in _ (by omega)]; omega))) (by simp only [Act.put, List.setIfInBounds_toArray, List.set_cons_zero, List.set_cons_succ] <;> rfl) ?_
    refine Rest.take 7 22 rfl (by kernel_rfl) (by kernel_rfl) (by kernel_rfl) (fun _ _ _ h => h) (by rfl) (by rfl) (by intro x hx; go_simp <;> with_reducible rfl) (by simp only [Act.put, List.setIfInBounds_toArray, List.set_cons_zero, List.set_cons_succ] <;> rfl) ?_
    refine Rest.take 8 23 rfl (by kernel_rfl) (by kernel_rfl) (by kernel_rfl) (fun _ _ _ h => h) (by rfl) (by rfl) (by intro x hx; have hc := below_cell (later HB hs hx) hg2 HC9.out; go_simp <;> with_reducible rfl) (by simp only [Act.put, List.setIfInBounds_toArray, List.set_cons_zero, List.set_cons_succ] <;> rfl) ?_
    refine Rest.take 9 24 (v := .int .i64 (2 * l.ca)) rfl (by kernel_rfl) (by kernel_rfl) (by kernel_rfl) (fun _ _ _ h => h) (by rfl) (by rfl) (by intro x hx; have h0 := HCA.out; go_simp <;> (first | rfl | omega | (rw [IntWalk.i64_in _ (by omega)]; done) | (rw [IntWalk.i64_in _ (by omega)]; omega))) (by simp only [Act.put, List.setIfInBounds_toArray, List.set_cons_zero, List.set_cons_succ] <;> rfl) ?_
    refine Rest.take 10 25 (v := .int .i64 (12 + 2 * l.ca)) rfl (by kernel_rfl) (by kernel_rfl) (by kernel_rfl) (fun _ _ _ h => h) (by rfl) (by rfl) (by intro x hx; have h0 := HCA.out; go_simp <;> (first | rfl | omega | (rw [IntWalk.i64_in _ (by omega)]; done) | (rw [IntWalk.i64_in _ (by omega)]; omega))) (by simp only [Act.put, List.setIfInBounds_toArray, List.set_cons_zero, List.set_cons_succ] <;> rfl) ?_
    refine Rest.take 11 4 rfl (by kernel_rfl) (by kernel_rfl) (by kernel_rfl) (fun _ _ _ h => h) (by rfl) (by rfl) (by intro x hx; go_simp <;> with_reducible rfl) (by simp only [Act.put, List.setIfInBounds_toArray, List.set_cons_zero, List.set_cons_succ] <;> rfl) ?_
    refine Rest.take 12 5 rfl (by kernel_rfl) (by kernel_rfl) (by kernel_rfl) (fun _ _ _ h => h) (by rfl) (by rfl) (by intro x hx; go_simp <;> with_reducible rfl) (by simp only [Act.put, List.setIfInBounds_toArray, List.set_cons_zero, List.set_cons_succ] <;> rfl) ?_
    refine Rest.take 13 6 rfl (by kernel_rfl) (by kernel_rfl) (by kernel_rfl) (fun _ _ _ h => h) (by rfl) (by rfl) (by intro x hx; go_simp <;> with_reducible rfl) (by simp only [Act.put, List.setIfInBounds_toArray, List.set_cons_zero, List.set_cons_succ] <;> rfl) ?_
    refine Rest.take 14 7 rfl (by kernel_rfl) (by kernel_rfl) (by kernel_rfl) (fun _ _ _ h => h) (by rfl) (by rfl) (by intro x hx; go_simp <;> with_reducible rfl) (by simp only [Act.put, List.setIfInBounds_toArray, List.set_cons_zero, List.set_cons_succ] <;> rfl) ?_
    refine Rest.done (by kernel_rfl) ?_
    refine hKK.out _ _ ?_
    refine wp_ret ?_
    refine bodyPost_ret (results_tmp4 rfl _ _ _) rfl ?_
    refine ⟨?_, HB2.out.trans (HB.out.mono HB2.out.size)⟩
    have he : areaRes l gen = .tuple #[.int .i64 6, .int .i64 (12 + l.ca), .int .i64 (12 + 2 * l.ca), .int .i64 0] := by rw [areaRes_ok HV.out hod]; simp
    rw [he]
    rfl

set_option maxRecDepth 100000 in
set_option maxHeartbeats 1600000 in
theorem refAreas_any (l : Lb) (gen : Int) (w : World) (ha : -9223372036854775808 ≤ l.ca ∧ l.ca ≤ 9223372036854775807 ∧ -9223372036854775808 ≤ l.cl ∧ l.cl ≤ 9223372036854775807) (hgen0 : 0 ≤ gen) (hgen1 : gen < 18446744073709551616) :
    Calls Try.prog 14 #[.agg l.cfgv, .int .u64 gen] w fun e w' => e = .returned (areaRes l gen) ∧ Below w.heap.size w w' := by
  have HA := Lib.hid ha
  have HG0 := Lib.hid hgen0
  clear ha
  go_enter Try.func14, Try.ntmps14
  refine wp_seq_k (fun K hK => ?_)
  refine Lin.begin ?_
  refine Lin.takeW 2 rfl rfl (by go_simp; exact ⟨rfl, rfl⟩) (by simp only [Act.put, List.setIfInBounds_toArray, List.set_cons_zero, List.set_cons_succ] <;> rfl) ?_
  intro w1 hw1
  obtain ⟨g, hg⟩ : ∃ g, g = w.heap.size := ⟨_, rfl⟩
  have HR1 : Hid (w1.rangeAt g 0 l.cfgv.toList) := by rw [hw1, hg]; exact Lib.hid (rangeAt_new _ _ _)
  have HB1 : Hid (Below w.heap.size w w1) := by rw [hw1]; exact Lib.hid ((Below.refl w.heap.size w).alloc (Nat.le_refl _) _)
  have hz1 : w.heap.size ≤ w1.heap.size := HB1.out.size
  have hg1 : g < w1.heap.size := by rw [hw1, hg]; simp
  rw [← hg]
  have HG := Lib.hid hg
  obtain ⟨V, hV⟩ : ∃ V, V = decide l.cfg := ⟨_, rfl⟩
  have HVB := Lib.hid hV
  clear hw1 hg hV
  refine Lin.take 4 rfl rfl (by go_simp <;> with_reducible rfl) (by simp only [Act.put, List.setIfInBounds_toArray, List.set_cons_zero, List.set_cons_succ] <;> rfl) ?_
  refine Lin.take 5 rfl rfl (by go_simp <;> with_reducible rfl) (by simp only [Act.put, List.setIfInBounds_toArray, List.set_cons_zero, List.set_cons_succ] <;> rfl) ?_
  refine Lin.take 6 rfl rfl (by go_simp <;> with_reducible rfl) (by simp only [Act.put, List.setIfInBounds_toArray, List.set_cons_zero, List.set_cons_succ] <;> rfl) ?_
  refine Lin.take 7 rfl rfl (by go_simp <;> with_reducible rfl) (by simp only [Act.put, List.setIfInBounds_toArray, List.set_cons_zero, List.set_cons_succ] <;> rfl) ?_
  refine Lin.done (hK _ _ ?_)
  clear hK K
  refine wp_seq_k (fun K1 hK1 => ?_)
  refine wp_seq_k (fun K hK => ?_)
  refine Lin.begin ?_
  refine Lin.mid 9 true 26 _ g 0 l.cfgv.toList _ (by kernel_rfl) rfl rfl (fun _ => rfl) HR1.out Try.underlying26 rfl (by kernel_rfl) (by simp only [Act.put, List.setIfInBounds_toArray, List.set_cons_zero, List.set_cons_succ] <;> rfl) ?_
  refine Lin.enter 10 rfl rfl (by simp only [gv_true]; go_simp <;> (first | exact ⟨rfl, rfl⟩ | rfl)) (v := .bool V) (by rw [HVB.out]; exact refCfgValid_any l.cd l.cw l.ct l.cs l.gr l.gb l.gt l.gs l.go l.ca l.cl _ HA.out.1 HA.out.2.1 HA.out.2.2.1 HA.out.2.2.2) (by simp only [Act.put, List.setIfInBounds_toArray, List.set_cons_zero, List.set_cons_succ] <;> rfl) ?_
  intro w2 hb2
  have HB2 := Lib.hid (HB1.out.trans (hb2.mono hz1)); have HR2 := Lib.hid (rangeAt_below HR1.out hb2 hg1); have hg2 : g < w2.heap.size := Nat.lt_of_lt_of_le hg1 hb2.size
  clear hb2
  refine Lin.take 11 (v := .bool (!V)) rfl rfl (by go_simp <;> with_reducible rfl) (by simp only [Act.put, List.setIfInBounds_toArray, List.set_cons_zero, List.set_cons_succ] <;> rfl) ?_
  refine Lin.done (hK _ _ ?_)
  refine wp_cond_split rfl (fun ht => ?_) (fun hf => ?_)
  · refine wp_seq_k (fun K2 hK2 => ?_)
    refine Lin.begin ?_
    refine Lin.take 4 rfl rfl (by go_simp <;> with_reducible rfl) (by simp only [Act.put, List.setIfInBounds_toArray, List.set_cons_zero, List.set_cons_succ] <;> rfl) ?_
    refine Lin.take 5 rfl rfl (by go_simp <;> with_reducible rfl) (by simp only [Act.put, List.setIfInBounds_toArray, List.set_cons_zero, List.set_cons_succ] <;> rfl) ?_
    refine Lin.take 6 rfl rfl (by go_simp <;> with_reducible rfl) (by simp only [Act.put, List.setIfInBounds_toArray, List.set_cons_zero, List.set_cons_succ] <;> rfl) ?_
    refine Lin.take 7 rfl rfl (by go_simp <;> with_reducible rfl) (by simp only [Act.put, List.setIfInBounds_toArray, List.set_cons_zero, List.set_cons_succ] <;> rfl) ?_
    refine Lin.done (hK2 _ _ ?_)
    refine wp_ret ?_
    simp only [Exit.then]
    refine bodyPost_ret (results_tmp4 rfl _ _ _) rfl ?_
    have hnv : ¬ l.cfg := by
      rw [HVB.out] at ht
      simpa using ht
    refine ⟨?_, HB2.out⟩
    rw [areaRes_no hnv]
    rfl
  have HV : Hid l.cfg := by
    rw [HVB.out] at hf
    exact Lib.hid (by simpa using hf)
  have HCA : Hid (1 ≤ l.ca ∧ l.ca ≤ 16384) := Lib.hid (by have := HV.out; unfold Lb.cfg cfgOk geoOk at this; omega)
  have HC9 : Hid (w2.cell? ⟨g, 9, none⟩ = some (.int .i64 l.ca)) := Lib.hid (HR2.out 9 _ rfl)
  clear hf HVB
  refine wp_skip ?_
  refine hK1 _ _ ?_
  clear hK1 K1 hK K
  rcases (show gen % 2 = 0 ∨ gen % 2 = 1 by omega) with hod | hod
  · have HB : Hid (Below w2.heap.size w2 w2.drew) := Lib.hid (Below.refl _ _).drew
    have hs : w2.heap.size ≤ w2.drew.heap.size := Nat.le_refl _
    refine wp_seq_k (fun K4 hK4 => ?_)
    refine Lin.begin ?_
    refine Lin.take 12 rfl rfl (by go_simp <;> with_reducible rfl) (by simp only [Act.put, List.setIfInBounds_toArray, List.set_cons_zero, List.set_cons_succ] <;> rfl) ?_
    refine Lin.take 13 (v := .int .u64 0) rfl rfl (by have h0 := hod; have h1 := HG0.out; go_simp <;> (first | omega | (rw [Int.tmod_eq_emod_of_nonneg (by omega)]; omega))) (by simp only [Act.put, List.setIfInBounds_toArray, List.set_cons_zero, List.set_cons_succ] <;> rfl) ?_
    refine Lin.take 14 (v := .int .i64 0) rfl rfl (by go_simp <;> exact IntWalk.i64_in _ (by omega)) (by simp only [Act.put, List.setIfInBounds_toArray, List.set_cons_zero, List.set_cons_succ] <;> rfl) ?_
    refine Lin.take 8 rfl rfl (by go_simp <;> with_reducible rfl) (by simp only [Act.put, List.setIfInBounds_toArray, List.set_cons_zero, List.set_cons_succ] <;> rfl) ?_
    refine Lin.done (hK4 _ _ ?_)
    refine wp_seq_k (fun K hK => ?_)
    have hKK := Lib.hid hK
    clear hK
    refine Rest.begin 15 (by kernel_rfl) (by kernel_rfl) ?_
    refine Rest.take 0 15 rfl (by kernel_rfl) (by kernel_rfl) (by kernel_rfl) (fun _ _ _ h => h) (by rfl) (by rfl) (by intro x hx; go_simp <;> with_reducible rfl) (by simp only [Act.put, List.setIfInBounds_toArray, List.set_cons_zero, List.set_cons_succ] <;> rfl) ?_
    refine Rest.take 1 16 (v := .int .i64 0) rfl (by kernel_rfl) (by kernel_rfl) (by kernel_rfl) (fun _ _ _ h => h) (by rfl) (by rfl) (by intro x hx; have h0 := HCA.out; go_simp <;> (first | rfl | omega | (rw [IntWalk.i64_in _ (by omega)]; done) | (rw [IntWalk.i64_in _ (by omega)]; omega))) (by simp only [Act.put, List.setIfInBounds_toArray, List.set_cons_zero, List.set_cons_succ] <;> rfl) ?_
    refine Rest.take 2 17 rfl (by kernel_rfl) (by kernel_rfl) (by kernel_rfl) (fun _ _ _ h => h) (by rfl) (by rfl) (by intro x hx; go_simp <;> with_reducible rfl) (by simp only [Act.put, List.setIfInBounds_toArray, List.set_cons_zero, List.set_cons_succ] <;> rfl) ?_
    refine Rest.take 3 18 rfl (by kernel_rfl) (by kernel_rfl) (by kernel_rfl) (fun _ _ _ h => h) (by rfl) (by rfl) (by intro x hx; have hc := below_cell (later HB hs hx) hg2 HC9.out; go_simp <;> with_reducible rfl) (by simp only [Act.put, List.setIfInBounds_toArray, List.set_cons_zero, List.set_cons_succ] <;> rfl) ?_
    refine Rest.take 4 19 rfl (by kernel_rfl) (by kernel_rfl) (by kernel_rfl) (fun _ _ _ h => h) (by rfl) (by rfl) (by intro x hx; go_simp <;> with_reducible rfl) (by simp only [Act.put, List.setIfInBounds_toArray, List.set_cons_zero, List.set_cons_succ] <;> rfl) ?_
    refine Rest.take 5 20 (v := .int .i64 0) rfl (by kernel_rfl) (by kernel_rfl) (by kernel_rfl) (fun _ _ _ h => h) (by rfl) (by rfl) (by intro x hx; have h0 := HCA.out; go_simp <;> (first | rfl | omega | (rw [IntWalk.i64_in _ (by omega)]; done) | (rw [IntWalk.i64_in _ (by omega)]; omega))) (by simp only [Act.put, List.setIfInBounds_toArray, List.set_cons_zero, List.set_cons_succ] <;> rfl) ?_
    refine Rest.take 6 21 (v := .int .i64 (12)) rfl (by kernel_rfl) (by kernel_rfl) (by kernel_rfl) (fun _ _ _ h => h) (by rfl) (by rfl) (by intro x hx; have h0 := HCA.out; go_simp <;> (first | rfl | omega | (rw [IntWalk.i64_in _ (by omega)]; done) | (rw [IntWalk.i64_in _ (by omega)]; omega))) (by simp only [Act.put, List.setIfInBounds_toArray, List.set_cons_zero, List.set_cons_succ] <;> rfl) ?_
    refine Rest.take 7 22 rfl (by kernel_rfl) (by kernel_rfl) (by kernel_rfl) (fun _ _ _ h => h) (by rfl) (by rfl) (by intro x hx; go_simp <;> with_reducible rfl) (by simp only [Act.put, List.setIfInBounds_toArray, List.set_cons_zero, List.set_cons_succ] <;> rfl) ?_
    refine Rest.take 8 23 rfl (by kernel_rfl) (by kernel_rfl) (by kernel_rfl) (fun _ _ _ h => h) (by rfl) (by rfl) (by intro x hx; have hc := below_cell (later HB hs hx) hg2 HC9.out; go_simp <;> with_reducible rfl) (by simp only [Act.put, List.setIfInBounds_toArray, List.set_cons_zero, List.set_cons_succ] <;> rfl) ?_
    refine Rest.take 9 24 (v := .int .i64 (2 * l.ca)) rfl (by kernel_rfl) (by kernel_rfl) (by kernel_rfl) (fun _ _ _ h => h) (by rfl) (by rfl) (by intro x hx; have h0 := HCA.out; go_simp <;> (first | rfl | omega | (rw [IntWalk.i64_in _ (by omega)]; done) | (rw [IntWalk.i64_in _ (by omega)]; omega))) (by simp only [Act.put, List.setIfInBounds_toArray, List.set_cons_zero, List.set_cons_succ] <;> rfl) ?_
    refine Rest.take 10 25 (v := .int .i64 (12 + 2 * l.ca)) rfl (by kernel_rfl) (by kernel_rfl) (by kernel_rfl) (fun _ _ _ h => h) (by rfl) (by rfl) (by intro x hx; have h0 := HCA.out; go_simp <;> (first | rfl | omega | (rw [IntWalk.i64_in _ (by omega)]; done) | (rw [IntWalk.i64_in _ (by omega)]; omega))) (by simp only [Act.put, List.setIfInBounds_toArray, List.set_cons_zero, List.set_cons_succ] <;> rfl) ?_
    refine Rest.take 11 4 rfl (by kernel_rfl) (by kernel_rfl) (by kernel_rfl) (fun _ _ _ h => h) (by rfl) (by rfl) (by intro x hx; go_simp <;> with_reducible rfl) (by simp only [Act.put, List.setIfInBounds_toArray, List.set_cons_zero, List.set_cons_succ] <;> rfl) ?_
    refine Rest.take 12 5 rfl (by kernel_rfl) (by kernel_rfl) (by kernel_rfl) (fun _ _ _ h => h) (by rfl) (by rfl) (by intro x hx; go_simp <;> with_reducible rfl) (by simp only [Act.put, List.setIfInBounds_toArray, List.set_cons_zero, List.set_cons_succ] <;> rfl) ?_
    refine Rest.take 13 6 rfl (by kernel_rfl) (by kernel_rfl) (by kernel_rfl) (fun _ _ _ h => h) (by rfl) (by rfl) (by intro x hx; go_simp <;> with_reducible rfl) (by simp only [Act.put, List.setIfInBounds_toArray, List.set_cons_zero, List.set_cons_succ] <;> rfl) ?_
    refine Rest.take 14 7 rfl (by kernel_rfl) (by kernel_rfl) (by kernel_rfl) (fun _ _ _ h => h) (by rfl) (by rfl) (by intro x hx; go_simp <;> with_reducible rfl) (by simp only [Act.put, List.setIfInBounds_toArray, List.set_cons_zero, List.set_cons_succ] <;> rfl) ?_
    refine Rest.done (by kernel_rfl) ?_
    refine hKK.out _ _ ?_
    refine wp_ret ?_
    refine bodyPost_ret (results_tmp4 rfl _ _ _) rfl ?_
    refine ⟨?_, HB2.out.trans (HB.out.mono HB2.out.size)⟩
    have he : areaRes l gen = .tuple #[.int .i64 0, .int .i64 (12), .int .i64 (12 + 2 * l.ca), .int .i64 0] := by rw [areaRes_ok HV.out hod]; simp
    rw [he]
    rfl
  · have HB : Hid (Below w2.heap.size w2 w2.drew) := Lib.hid (Below.refl _ _).drew
    have hs : w2.heap.size ≤ w2.drew.heap.size := Nat.le_refl _
    refine wp_seq_k (fun K4 hK4 => ?_)
    refine Lin.begin ?_
    refine Lin.take 12 rfl rfl (by go_simp <;> with_reducible rfl) (by simp only [Act.put, List.setIfInBounds_toArray, List.set_cons_zero, List.set_cons_succ] <;> rfl) ?_
    refine Lin.take 13 (v := .int .u64 1) rfl rfl (by have h0 := hod; have h1 := HG0.out; go_simp <;> (first | omega | (rw [Int.tmod_eq_emod_of_nonneg (by omega)]; omega))) (by simp only [Act.put, List.setIfInBounds_toArray, List.set_cons_zero, List.set_cons_succ] <;> rfl) ?_
    refine Lin.take 14 (v := .int .i64 1) rfl rfl (by go_simp <;> exact IntWalk.i64_in _ (by omega)) (by simp only [Act.put, List.setIfInBounds_toArray, List.set_cons_zero, List.set_cons_succ] <;> rfl) ?_
    refine Lin.take 8 rfl rfl (by go_simp <;> with_reducible rfl) (by simp only [Act.put, List.setIfInBounds_toArray, List.set_cons_zero, List.set_cons_succ] <;> rfl) ?_
    refine Lin.done (hK4 _ _ ?_)
    refine wp_seq_k (fun K hK => ?_)
    have hKK := Lib.hid hK
    clear hK
    refine Rest.begin 15 (by kernel_rfl) (by kernel_rfl) ?_
    refine Rest.take 0 15 rfl (by kernel_rfl) (by kernel_rfl) (by kernel_rfl) (fun _ _ _ h => h) (by rfl) (by rfl) (by intro x hx; go_simp <;> with_reducible rfl) (by simp only [Act.put, List.setIfInBounds_toArray, List.set_cons_zero, List.set_cons_succ] <;> rfl) ?_
    refine Rest.take 1 16 (v := .int .i64 6) rfl (by kernel_rfl) (by kernel_rfl) (by kernel_rfl) (fun _ _ _ h => h) (by rfl) (by rfl) (by intro x hx; have h0 := HCA.out; go_simp <;> (first | rfl | omega | (rw [IntWalk.i64_in _ (by omega)]; done) | (rw [IntWalk.i64_in _ (by omega)]; omega))) (by simp only [Act.put, List.setIfInBounds_toArray, List.set_cons_zero, List.set_cons_succ] <;> rfl) ?_
    refine Rest.take 2 17 rfl (by kernel_rfl) (by kernel_rfl) (by kernel_rfl) (fun _ _ _ h => h) (by rfl) (by rfl) (by intro x hx; go_simp <;> with_reducible rfl) (by simp only [Act.put, List.setIfInBounds_toArray, List.set_cons_zero, List.set_cons_succ] <;> rfl) ?_
    refine Rest.take 3 18 rfl (by kernel_rfl) (by kernel_rfl) (by kernel_rfl) (fun _ _ _ h => h) (by rfl) (by rfl) (by intro x hx; have hc := below_cell (later HB hs hx) hg2 HC9.out; go_simp <;> with_reducible rfl) (by simp only [Act.put, List.setIfInBounds_toArray, List.set_cons_zero, List.set_cons_succ] <;> rfl) ?_
    refine Rest.take 4 19 rfl (by kernel_rfl) (by kernel_rfl) (by kernel_rfl) (fun _ _ _ h => h) (by rfl) (by rfl) (by intro x hx; go_simp <;> with_reducible rfl) (by simp only [Act.put, List.setIfInBounds_toArray, List.set_cons_zero, List.set_cons_succ] <;> rfl) ?_
    refine Rest.take 5 20 (v := .int .i64 l.ca) rfl (by kernel_rfl) (by kernel_rfl) (by kernel_rfl) (fun _ _ _ h => h) (by rfl) (by rfl) (by intro x hx; have h0 := HCA.out; go_simp <;> (first | rfl | omega | (rw [IntWalk.i64_in _ (by omega)]; done) | (rw [IntWalk.i64_in _ (by omega)]; omega))) (by simp only [Act.put, List.setIfInBounds_toArray, List.set_cons_zero, List.set_cons_succ] <;> rfl) ?_
    refine Rest.take 6 21 (v := .int .i64 (12 + l.ca)) rfl (by kernel_rfl) (by kernel_rfl) (by kernel_rfl) (fun _ _ _ h => h) (by rfl) (by rfl) (by intro x hx; have h0 := HCA.out; go_simp <;> (first | rfl | omega | (rw [IntWalk.i64_in _ (by omega)]; done) | (rw [IntWalk.i64_in _ (by omega)]; omega))) (by simp only [Act.put, List.setIfInBounds_toArray, List.set_cons_zero, List.set_cons_succ] <;> rfl) ?_
    refine Rest.take 7 22 rfl (by kernel_rfl) (by kernel_rfl) (by kernel_rfl) (fun _ _ _ h => h) (by rfl) (by rfl) (by intro x hx; go_simp <;> with_reducible rfl) (by simp only [Act.put, List.setIfInBounds_toArray, List.set_cons_zero, List.set_cons_succ] <;> rfl) ?_
    refine Rest.take 8 23 rfl (by kernel_rfl) (by kernel_rfl) (by kernel_rfl) (fun _ _ _ h => h) (by rfl) (by rfl) (by intro x hx; have hc := below_cell (later HB hs hx) hg2 HC9.out; go_simp <;> with_reducible rfl) (by simp only [Act.put, List.setIfInBounds_toArray, List.set_cons_zero, List.set_cons_succ] <;> rfl) ?_
    refine Rest.take 9 24 (v := .int .i64 (2 * l.ca)) rfl (by kernel_rfl) (by kernel_rfl) (by kernel_rfl) (fun _ _ _ h => h) (by rfl) (by rfl) (by intro x hx; have h0 := HCA.out; go_simp <;> (first | rfl | omega | (rw [IntWalk.i64_in _ (by omega)]; done) | (rw [IntWalk.i64_in _ (by omega)]; omega))) (by simp only [Act.put, List.setIfInBounds_toArray, List.set_cons_zero, List.set_cons_succ] <;> rfl) ?_
    refine Rest.take 10 25 (v := .int .i64 (12 + 2 * l.ca)) rfl (by kernel_rfl) (by kernel_rfl) (by kernel_rfl) (fun _ _ _ h => h) (by rfl) (by rfl) (by intro x hx; have h0 := HCA.out; go_simp <;> (first | rfl | omega | (rw [IntWalk.i64_in _ (by omega)]; done) | (rw [IntWalk.i64_in _ (by omega)]; omega))) (by simp only [Act.put, List.setIfInBounds_toArray, List.set_cons_zero, List.set_cons_succ] <;> rfl) ?_
    refine Rest.take 11 4 rfl (by kernel_rfl) (by kernel_rfl) (by kernel_rfl) (fun _ _ _ h => h) (by rfl) (by rfl) (by intro x hx; go_simp <;> with_reducible rfl) (by simp only [Act.put, List.setIfInBounds_toArray, List.set_cons_zero, List.set_cons_succ] <;> rfl) ?_
    refine Rest.take 12 5 rfl (by kernel_rfl) (by kernel_rfl) (by kernel_rfl) (fun _ _ _ h => h) (by rfl) (by rfl) (by intro x hx; go_simp <;> with_reducible rfl) (by simp only [Act.put, List.setIfInBounds_toArray, List.set_cons_zero, List.set_cons_succ] <;> rfl) ?_
    refine Rest.take 13 6 rfl (by kernel_rfl) (by kernel_rfl) (by kernel_rfl) (fun _ _ _ h => h) (by rfl) (by rfl) (by intro x hx; go_simp <;> with_reducible rfl) (by simp only [Act.put, List.setIfInBounds_toArray, List.set_cons_zero, List.set_cons_succ] <;> rfl) ?_
    refine Rest.take 14 7 rfl (by kernel_rfl) (by kernel_rfl) (by kernel_rfl) (fun _ _ _ h => h) (by rfl) (by rfl) (by intro x hx; go_simp <;> with_reducible rfl) (by simp only [Act.put, List.setIfInBounds_toArray, List.set_cons_zero, List.set_cons_succ] <;> rfl) ?_
    refine Rest.done (by kernel_rfl) ?_
    refine hKK.out _ _ ?_
    refine wp_ret ?_
    refine bodyPost_ret (results_tmp4 rfl _ _ _) rfl ?_
    refine ⟨?_, HB2.out.trans (HB.out.mono HB2.out.size)⟩
    have he : areaRes l gen = .tuple #[.int .i64 6, .int .i64 (12 + l.ca), .int .i64 (12 + 2 * l.ca), .int .i64 0] := by rw [areaRes_ok HV.out hod]; simp
    rw [he]
    rfl

end Go.Proofs.Ytjjknjkpkoeelaa
