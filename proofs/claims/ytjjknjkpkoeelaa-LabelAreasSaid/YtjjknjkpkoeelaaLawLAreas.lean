/- LabelAreas: for every configuration and generation the law returns true. (Printed by lawareas.py.) -/
import Derived.Test.YtjjknjkpkoeelaaAwake30
import Derived.Test.YtjjknjkpkoeelaaReadC
set_option linter.unusedVariables false
set_option linter.unusedSimpArgs false
namespace Go.Proofs.Ytjjknjkpkoeelaa
open Go Go.RowKit Go.Lib

set_option maxRecDepth 100000 in
set_option maxHeartbeats 3200000 in
theorem labelAreas_walk (l : Lb) (gen : Int) (w : World) (ha : -9223372036854775808 ≤ l.ca ∧ l.ca ≤ 9223372036854775807 ∧ -9223372036854775808 ≤ l.cl ∧ l.cl ≤ 9223372036854775807) (hgen0 : 0 ≤ gen) (hgen1 : gen < 18446744073709551616) :
    Calls Try.prog 4 #[.agg l.cfgv, .int .u64 gen] w fun e w' => e = .returned (.bool true) ∧ Below w.heap.size w w' := by
  have HA := Lib.hid ha
  clear ha
  obtain ⟨a0, b0, l0, e0, hres, hok, hno⟩ : ∃ a0 b0 l0 e0 : Int, areaRes l gen = .tuple #[.int .i64 a0, .int .i64 b0, .int .i64 l0, .int .i64 e0] ∧ (l.cfg → a0 = 6 * (gen % 2) ∧ b0 = 12 + gen % 2 * l.ca ∧ l0 = 12 + 2 * l.ca ∧ e0 = 0) ∧ (¬ l.cfg → e0 = 1) := by
    by_cases hc : l.cfg
    · exact ⟨_, _, _, _, areaRes_ok hc rfl, fun _ => ⟨rfl, rfl, rfl, rfl⟩, fun h => (h hc).elim⟩
    · exact ⟨_, _, _, _, areaRes_no hc, fun h => (hc h).elim, fun _ => rfl⟩
  have HRES := Lib.hid hres
  have HOK := Lib.hid hok
  have HNO := Lib.hid hno
  clear hres hok hno
  go_enter Try.func4, Try.ntmps4
  refine wp_seq_k (fun K hK => ?_)
  refine Lin.begin ?_
  refine Lin.takeW 2 rfl rfl (by go_simp; exact ⟨rfl, rfl⟩) (by simp only [Act.put, List.setIfInBounds_toArray, List.set_cons_zero, List.set_cons_succ] <;> rfl) ?_
  intro w1 hw1
  obtain ⟨g, hg⟩ : ∃ g, g = w.heap.size := ⟨_, rfl⟩
  have HR1 : Hid (w1.rangeAt g 0 l.cfgv.toList) := by rw [hw1, hg]; exact Lib.hid (rangeAt_new _ _ _)
  have HB1 : Hid (Below w.heap.size w w1) := by rw [hw1]; exact Lib.hid ((Below.refl w.heap.size w).alloc (Nat.le_refl _) _)
  have hg1 : g < w1.heap.size := by rw [hw1, hg]; simp
  rw [← hg]
  have HG := Lib.hid hg
  clear hw1 hg
  refine Lin.take 4 rfl rfl (by go_simp <;> with_reducible rfl) (by simp only [Act.put, List.setIfInBounds_toArray, List.set_cons_zero, List.set_cons_succ] <;> rfl) ?_
  refine Lin.done (hK _ _ ?_)
  clear hK K
  refine wp_seq_k (fun K1 hK1 => ?_)
  refine wp_seq_k (fun K hK => ?_)
  refine Lin.begin ?_
  refine Lin.enter 21 rfl rfl (by go_simp <;> (first | exact ⟨rfl, rfl⟩ | rfl)) (awake_any w1) (by simp only [Act.put, List.setIfInBounds_toArray, List.set_cons_zero, List.set_cons_succ] <;> rfl) ?_
  intro w2 hbn
  have HB2 := Lib.hid (HB1.out.trans (hbn.mono HB1.out.size)); have HR2 := Lib.hid (rangeAt_below HR1.out hbn hg1); have hg2 : g < w2.heap.size := Nat.lt_of_lt_of_le hg1 hbn.size
  clear hbn
  refine Lin.take 22 rfl rfl (by go_simp <;> with_reducible rfl) (by simp only [Act.put, List.setIfInBounds_toArray, List.set_cons_zero, List.set_cons_succ] <;> rfl) ?_
  refine Lin.done (hK _ _ ?_)
  refine wp_cond_false rfl ?_
  refine wp_skip ?_
  refine hK1 _ _ ?_
  clear hK1 K1 hK K
  refine wp_seq_k (fun K hK => ?_)
  refine Lin.begin ?_
  refine Lin.mid 24 true 26 _ g 0 l.cfgv.toList _ (by kernel_rfl) rfl rfl (fun _ => rfl) HR2.out Try.underlying26 rfl (by kernel_rfl) (by simp only [Act.put, List.setIfInBounds_toArray, List.set_cons_zero, List.set_cons_succ] <;> rfl) ?_
  refine Lin.take 25 rfl rfl (by go_simp <;> with_reducible rfl) (by simp only [Act.put, List.setIfInBounds_toArray, List.set_cons_zero, List.set_cons_succ] <;> rfl) ?_
  refine Lin.enter 26 rfl rfl (by simp only [gv_true]; go_simp <;> (first | exact ⟨rfl, rfl⟩ | rfl)) (v := .tuple #[.int .i64 a0, .int .i64 b0, .int .i64 l0, .int .i64 e0]) (by rw [← HRES.out]; exact areas_any l gen _ HA.out hgen0 hgen1) (by simp only [Act.put, List.setIfInBounds_toArray, List.set_cons_zero, List.set_cons_succ] <;> rfl) ?_
  intro w3 hbn
  have HB3 := Lib.hid (HB2.out.trans (hbn.mono HB2.out.size)); have HR3 := Lib.hid (rangeAt_below HR2.out hbn hg2); have hg3 : g < w3.heap.size := Nat.lt_of_lt_of_le hg2 hbn.size
  clear hbn
  refine Lin.take 23 rfl rfl (by go_simp <;> with_reducible rfl) (by simp only [Act.put, List.setIfInBounds_toArray, List.set_cons_zero, List.set_cons_succ] <;> rfl) ?_
  refine Lin.take 27 rfl rfl (by go_simp <;> with_reducible rfl) (by simp only [Act.put, List.setIfInBounds_toArray, List.set_cons_zero, List.set_cons_succ] <;> rfl) ?_
  refine Lin.take 28 rfl rfl (by go_simp <;> with_reducible rfl) (by simp only [Act.put, List.setIfInBounds_toArray, List.set_cons_zero, List.set_cons_succ] <;> rfl) ?_
  refine Lin.take 29 rfl rfl (by go_simp <;> with_reducible rfl) (by simp only [Act.put, List.setIfInBounds_toArray, List.set_cons_zero, List.set_cons_succ] <;> rfl) ?_
  refine Lin.take 30 rfl rfl (by go_simp <;> with_reducible rfl) (by simp only [Act.put, List.setIfInBounds_toArray, List.set_cons_zero, List.set_cons_succ] <;> rfl) ?_
  refine Lin.take 5 rfl rfl (by go_simp <;> with_reducible rfl) (by simp only [Act.put, List.setIfInBounds_toArray, List.set_cons_zero, List.set_cons_succ] <;> rfl) ?_
  refine Lin.take 6 rfl rfl (by go_simp <;> with_reducible rfl) (by simp only [Act.put, List.setIfInBounds_toArray, List.set_cons_zero, List.set_cons_succ] <;> rfl) ?_
  refine Lin.take 7 rfl rfl (by go_simp <;> with_reducible rfl) (by simp only [Act.put, List.setIfInBounds_toArray, List.set_cons_zero, List.set_cons_succ] <;> rfl) ?_
  refine Lin.take 8 rfl rfl (by go_simp <;> with_reducible rfl) (by simp only [Act.put, List.setIfInBounds_toArray, List.set_cons_zero, List.set_cons_succ] <;> rfl) ?_
  refine Lin.done (hK _ _ ?_)
  clear hK K
  refine wp_seq_k (fun K hK => ?_)
  refine Lin.begin ?_
  refine Lin.mid 32 true 26 _ g 0 l.cfgv.toList _ (by kernel_rfl) rfl rfl (fun _ => rfl) HR3.out Try.underlying26 rfl (by kernel_rfl) (by simp only [Act.put, List.setIfInBounds_toArray, List.set_cons_zero, List.set_cons_succ] <;> rfl) ?_
  refine Lin.take 33 rfl rfl (by go_simp <;> with_reducible rfl) (by simp only [Act.put, List.setIfInBounds_toArray, List.set_cons_zero, List.set_cons_succ] <;> rfl) ?_
  refine Lin.enter 34 rfl rfl (by simp only [gv_true]; go_simp <;> (first | exact ⟨rfl, rfl⟩ | rfl)) (v := .tuple #[.int .i64 a0, .int .i64 b0, .int .i64 l0, .int .i64 e0]) (by rw [← HRES.out]; exact refAreas_any l gen _ HA.out hgen0 hgen1) (by simp only [Act.put, List.setIfInBounds_toArray, List.set_cons_zero, List.set_cons_succ] <;> rfl) ?_
  intro w4 hbn
  have HB4 := Lib.hid (HB3.out.trans (hbn.mono HB3.out.size)); have HR4 := Lib.hid (rangeAt_below HR3.out hbn hg3); have hg4 : g < w4.heap.size := Nat.lt_of_lt_of_le hg3 hbn.size
  clear hbn
  refine Lin.take 31 rfl rfl (by go_simp <;> with_reducible rfl) (by simp only [Act.put, List.setIfInBounds_toArray, List.set_cons_zero, List.set_cons_succ] <;> rfl) ?_
  refine Lin.take 35 rfl rfl (by go_simp <;> with_reducible rfl) (by simp only [Act.put, List.setIfInBounds_toArray, List.set_cons_zero, List.set_cons_succ] <;> rfl) ?_
  refine Lin.take 36 rfl rfl (by go_simp <;> with_reducible rfl) (by simp only [Act.put, List.setIfInBounds_toArray, List.set_cons_zero, List.set_cons_succ] <;> rfl) ?_
  refine Lin.take 37 rfl rfl (by go_simp <;> with_reducible rfl) (by simp only [Act.put, List.setIfInBounds_toArray, List.set_cons_zero, List.set_cons_succ] <;> rfl) ?_
  refine Lin.take 38 rfl rfl (by go_simp <;> with_reducible rfl) (by simp only [Act.put, List.setIfInBounds_toArray, List.set_cons_zero, List.set_cons_succ] <;> rfl) ?_
  refine Lin.take 9 rfl rfl (by go_simp <;> with_reducible rfl) (by simp only [Act.put, List.setIfInBounds_toArray, List.set_cons_zero, List.set_cons_succ] <;> rfl) ?_
  refine Lin.take 10 rfl rfl (by go_simp <;> with_reducible rfl) (by simp only [Act.put, List.setIfInBounds_toArray, List.set_cons_zero, List.set_cons_succ] <;> rfl) ?_
  refine Lin.take 11 rfl rfl (by go_simp <;> with_reducible rfl) (by simp only [Act.put, List.setIfInBounds_toArray, List.set_cons_zero, List.set_cons_succ] <;> rfl) ?_
  refine Lin.take 12 rfl rfl (by go_simp <;> with_reducible rfl) (by simp only [Act.put, List.setIfInBounds_toArray, List.set_cons_zero, List.set_cons_succ] <;> rfl) ?_
  refine Lin.done (hK _ _ ?_)
  clear hK K
  refine wp_seq_k (fun K1 hK1 => ?_)
  refine wp_seq_k (fun K hK => ?_)
  refine Lin.begin ?_
  refine Lin.take 39 rfl rfl (by go_simp <;> with_reducible rfl) (by simp only [Act.put, List.setIfInBounds_toArray, List.set_cons_zero, List.set_cons_succ] <;> rfl) ?_
  refine Lin.take 40 rfl rfl (by go_simp <;> with_reducible rfl) (by simp only [Act.put, List.setIfInBounds_toArray, List.set_cons_zero, List.set_cons_succ] <;> rfl) ?_
  refine Lin.take 41 rfl rfl (by go_simp <;> with_reducible rfl) (by simp only [Act.put, List.setIfInBounds_toArray, List.set_cons_zero, List.set_cons_succ] <;> rfl) ?_
  refine Lin.bool 42 rfl rfl (by go_simp <;> with_reducible rfl) ?_
  intro B42 hB42 aa ha; simp only [Act.put, List.setIfInBounds_toArray, List.set_cons_zero, List.set_cons_succ] at ha; subst ha; replace hB42 := Lib.hid hB42
  refine Lin.may 43 (!B42) (by cases B42 <;> kernel_rfl) rfl (by intro hc; (try simp only [hc, gv_true]); go_simp <;> with_reducible rfl) (by simp only [Act.put, List.setIfInBounds_toArray, List.set_cons_zero, List.set_cons_succ] <;> rfl) ?_
  refine Lin.may 44 (!B42) (by cases B42 <;> kernel_rfl) rfl (by intro hc; (try simp only [hc, gv_true]); go_simp <;> with_reducible rfl) (by simp only [Act.put, List.setIfInBounds_toArray, List.set_cons_zero, List.set_cons_succ] <;> rfl) ?_
  refine Lin.may 45 (!B42) (by cases B42 <;> kernel_rfl) rfl (by intro hc; (try simp only [hc, gv_true]); go_simp <;> with_reducible rfl) (by simp only [Act.put, List.setIfInBounds_toArray, List.set_cons_zero, List.set_cons_succ] <;> rfl) ?_
  refine Lin.or 46 42 45 rfl rfl rfl rfl rfl ?_
  intro B46 hB46 aa ha; simp only [Act.put, List.setIfInBounds_toArray, List.set_cons_zero, List.set_cons_succ] at ha; subst ha; replace hB46 := Lib.hid hB46
  refine Lin.take 47 rfl rfl (by go_simp <;> with_reducible rfl) (by simp only [Act.put, List.setIfInBounds_toArray, List.set_cons_zero, List.set_cons_succ] <;> rfl) ?_
  refine Lin.may 48 (!B46) (by cases B46 <;> kernel_rfl) rfl (by intro hc; (try simp only [hc, gv_true]); go_simp <;> with_reducible rfl) (by simp only [Act.put, List.setIfInBounds_toArray, List.set_cons_zero, List.set_cons_succ] <;> rfl) ?_
  refine Lin.may 49 (!B46) (by cases B46 <;> kernel_rfl) rfl (by intro hc; (try simp only [hc, gv_true]); go_simp <;> with_reducible rfl) (by simp only [Act.put, List.setIfInBounds_toArray, List.set_cons_zero, List.set_cons_succ] <;> rfl) ?_
  refine Lin.may 50 (!B46) (by cases B46 <;> kernel_rfl) rfl (by intro hc; (try simp only [hc, gv_true]); go_simp <;> with_reducible rfl) (by simp only [Act.put, List.setIfInBounds_toArray, List.set_cons_zero, List.set_cons_succ] <;> rfl) ?_
  refine Lin.or 51 47 50 rfl rfl rfl rfl rfl ?_
  intro B51 hB51 aa ha; simp only [Act.put, List.setIfInBounds_toArray, List.set_cons_zero, List.set_cons_succ] at ha; subst ha; replace hB51 := Lib.hid hB51
  refine Lin.take 52 rfl rfl (by go_simp <;> with_reducible rfl) (by simp only [Act.put, List.setIfInBounds_toArray, List.set_cons_zero, List.set_cons_succ] <;> rfl) ?_
  refine Lin.may 53 (!B51) (by cases B51 <;> kernel_rfl) rfl (by intro hc; (try simp only [hc, gv_true]); go_simp <;> with_reducible rfl) (by simp only [Act.put, List.setIfInBounds_toArray, List.set_cons_zero, List.set_cons_succ] <;> rfl) ?_
  refine Lin.may 54 (!B51) (by cases B51 <;> kernel_rfl) rfl (by intro hc; (try simp only [hc, gv_true]); go_simp <;> with_reducible rfl) (by simp only [Act.put, List.setIfInBounds_toArray, List.set_cons_zero, List.set_cons_succ] <;> rfl) ?_
  refine Lin.may 55 (!B51) (by cases B51 <;> kernel_rfl) rfl (by intro hc; (try simp only [hc, gv_true]); go_simp <;> with_reducible rfl) (by simp only [Act.put, List.setIfInBounds_toArray, List.set_cons_zero, List.set_cons_succ] <;> rfl) ?_
  refine Lin.or 56 52 55 rfl rfl rfl rfl rfl ?_
  intro B56 hB56 aa ha; simp only [Act.put, List.setIfInBounds_toArray, List.set_cons_zero, List.set_cons_succ] at ha; subst ha; replace hB56 := Lib.hid hB56
  refine Lin.done (hK _ _ ?_)
  have hB : B56 = false := by simp [hB42.out, hB46.out, hB51.out, hB56.out]
  refine wp_cond_false (congrArg Value.bool hB) ?_
  refine wp_skip ?_
  refine hK1 _ _ ?_
  clear hK1 K1 hK K hB
  refine wp_seq_k (fun K1 hK1 => ?_)
  refine wp_seq_k (fun K hK => ?_)
  refine Lin.begin ?_
  refine Lin.take 57 rfl rfl (by go_simp <;> with_reducible rfl) (by simp only [Act.put, List.setIfInBounds_toArray, List.set_cons_zero, List.set_cons_succ] <;> rfl) ?_
  refine Lin.take 58 rfl rfl (by go_simp <;> with_reducible rfl) (by simp only [Act.put, List.setIfInBounds_toArray, List.set_cons_zero, List.set_cons_succ] <;> rfl) ?_
  refine Lin.done (hK _ _ ?_)
  refine wp_cond_split rfl (fun ht => ?_) (fun hf => ?_)
  · refine wp_seq_k (fun K2 hK2 => ?_)
    refine Lin.begin ?_
    refine Lin.take 4 rfl rfl (by go_simp <;> with_reducible rfl) (by simp only [Act.put, List.setIfInBounds_toArray, List.set_cons_zero, List.set_cons_succ] <;> rfl) ?_
    refine Lin.done (hK2 _ _ ?_)
    refine wp_ret ?_
    simp only [Exit.then]
    refine bodyPost_ret (results_tmp rfl _ _ _) rfl ?_
    exact ⟨rfl, HB4.out⟩
  have HV : Hid l.cfg := by
    simp only [bne_eq_false_iff_eq] at hf
    refine Lib.hid (Classical.byContradiction fun hc => ?_)
    have := HNO.out hc
    omega
  obtain ⟨gen2, hg2v⟩ : ∃ gen2 : Int, gen2 = (gen + 1) % 18446744073709551616 := ⟨_, rfl⟩
  have HG2 := Lib.hid hg2v
  obtain ⟨a2, b2, hres2, ha2, hb2⟩ : ∃ a2 b2 : Int, areaRes l gen2 = .tuple #[.int .i64 a2, .int .i64 b2, .int .i64 l0, .int .i64 0] ∧ a2 = 6 * (gen2 % 2) ∧ b2 = 12 + gen2 % 2 * l.ca := by
    refine ⟨_, _, ?_, rfl, rfl⟩
    rw [areaRes_ok HV.out rfl, (HOK.out HV.out).2.2.1]
  have HRES2 := Lib.hid hres2
  have HSM : Hid (1 ≤ l.ca ∧ 1 ≤ l.cl ∧ 12 + 2 * l.ca + l.cl ≤ l.gr ∧ l.gr ≤ 16384 ∧ l0 = 12 + 2 * l.ca ∧ ((a0 = 0 ∧ a2 = 6 ∧ b0 = 12 ∧ b2 = 12 + l.ca) ∨ (a0 = 6 ∧ a2 = 0 ∧ b0 = 12 + l.ca ∧ b2 = 12))) := by
    have hv := HV.out
    unfold Lb.cfg cfgOk geoOk at hv
    obtain ⟨h1, h2, h3, -⟩ := HOK.out HV.out
    refine Lib.hid ⟨by omega, by omega, by omega, by omega, h3, ?_⟩
    rcases (show gen % 2 = 0 ∧ gen2 % 2 = 1 ∨ gen % 2 = 1 ∧ gen2 % 2 = 0 by omega) with ⟨q1, q2⟩ | ⟨q1, q2⟩
    · left
      rw [h1, ha2, h2, hb2, q1, q2]
      omega
    · right
      rw [h1, ha2, h2, hb2, q1, q2]
      omega
  clear hf hg2v hres2 ha2 hb2
  refine wp_skip ?_
  refine hK1 _ _ ?_
  clear hK1 K1 hK K
  refine wp_seq_k (fun K hK => ?_)
  refine Lin.begin ?_
  refine Lin.mid 60 true 26 _ g 0 l.cfgv.toList _ (by kernel_rfl) rfl rfl (fun _ => rfl) HR4.out Try.underlying26 rfl (by kernel_rfl) (by simp only [Act.put, List.setIfInBounds_toArray, List.set_cons_zero, List.set_cons_succ] <;> rfl) ?_
  refine Lin.take 61 rfl rfl (by go_simp <;> with_reducible rfl) (by simp only [Act.put, List.setIfInBounds_toArray, List.set_cons_zero, List.set_cons_succ] <;> rfl) ?_
  refine Lin.take 62 (v := .int .u64 gen2) rfl rfl (by have hh := HG2.out; go_simp <;> (rw [IntKind.wrap_u64] <;> omega)) (by simp only [Act.put, List.setIfInBounds_toArray, List.set_cons_zero, List.set_cons_succ] <;> rfl) ?_
  refine Lin.enter 63 rfl rfl (by simp only [gv_true]; go_simp <;> (first | exact ⟨rfl, rfl⟩ | rfl)) (v := .tuple #[.int .i64 a2, .int .i64 b2, .int .i64 l0, .int .i64 0]) (by rw [← HRES2.out]; exact areas_any l gen2 _ HA.out (by have := HG2.out; omega) (by have := HG2.out; omega)) (by simp only [Act.put, List.setIfInBounds_toArray, List.set_cons_zero, List.set_cons_succ] <;> rfl) ?_
  intro w5 hbn
  have HB5 := Lib.hid (HB4.out.trans (hbn.mono HB4.out.size)); have HR5 := Lib.hid (rangeAt_below HR4.out hbn hg4); have hg5 : g < w5.heap.size := Nat.lt_of_lt_of_le hg4 hbn.size
  clear hbn
  refine Lin.take 59 rfl rfl (by go_simp <;> with_reducible rfl) (by simp only [Act.put, List.setIfInBounds_toArray, List.set_cons_zero, List.set_cons_succ] <;> rfl) ?_
  refine Lin.take 64 rfl rfl (by go_simp <;> with_reducible rfl) (by simp only [Act.put, List.setIfInBounds_toArray, List.set_cons_zero, List.set_cons_succ] <;> rfl) ?_
  refine Lin.take 65 rfl rfl (by go_simp <;> with_reducible rfl) (by simp only [Act.put, List.setIfInBounds_toArray, List.set_cons_zero, List.set_cons_succ] <;> rfl) ?_
  refine Lin.take 66 rfl rfl (by go_simp <;> with_reducible rfl) (by simp only [Act.put, List.setIfInBounds_toArray, List.set_cons_zero, List.set_cons_succ] <;> rfl) ?_
  refine Lin.take 67 rfl rfl (by go_simp <;> with_reducible rfl) (by simp only [Act.put, List.setIfInBounds_toArray, List.set_cons_zero, List.set_cons_succ] <;> rfl) ?_
  refine Lin.take 13 rfl rfl (by go_simp <;> with_reducible rfl) (by simp only [Act.put, List.setIfInBounds_toArray, List.set_cons_zero, List.set_cons_succ] <;> rfl) ?_
  refine Lin.take 14 rfl rfl (by go_simp <;> with_reducible rfl) (by simp only [Act.put, List.setIfInBounds_toArray, List.set_cons_zero, List.set_cons_succ] <;> rfl) ?_
  refine Lin.take 15 rfl rfl (by go_simp <;> with_reducible rfl) (by simp only [Act.put, List.setIfInBounds_toArray, List.set_cons_zero, List.set_cons_succ] <;> rfl) ?_
  refine Lin.take 16 rfl rfl (by go_simp <;> with_reducible rfl) (by simp only [Act.put, List.setIfInBounds_toArray, List.set_cons_zero, List.set_cons_succ] <;> rfl) ?_
  refine Lin.done (hK _ _ ?_)
  clear hK K
  refine wp_seq_k (fun K1 hK1 => ?_)
  refine wp_seq_k (fun K hK => ?_)
  refine Lin.begin ?_
  refine Lin.take 68 rfl rfl (by go_simp <;> with_reducible rfl) (by simp only [Act.put, List.setIfInBounds_toArray, List.set_cons_zero, List.set_cons_succ] <;> rfl) ?_
  refine Lin.take 69 rfl rfl (by go_simp <;> with_reducible rfl) (by simp only [Act.put, List.setIfInBounds_toArray, List.set_cons_zero, List.set_cons_succ] <;> rfl) ?_
  refine Lin.bool 70 rfl rfl (by go_simp <;> with_reducible rfl) ?_
  intro B70 hB70 aa ha; simp only [Act.put, List.setIfInBounds_toArray, List.set_cons_zero, List.set_cons_succ] at ha; subst ha; replace hB70 := Lib.hid hB70
  refine Lin.may 71 (!B70) (by cases B70 <;> kernel_rfl) rfl (by intro hc; (try simp only [hc, gv_true]); go_simp <;> with_reducible rfl) (by simp only [Act.put, List.setIfInBounds_toArray, List.set_cons_zero, List.set_cons_succ] <;> rfl) ?_
  refine Lin.may 72 (!B70) (by cases B70 <;> kernel_rfl) rfl (by intro hc; (try simp only [hc, gv_true]); go_simp <;> with_reducible rfl) (by simp only [Act.put, List.setIfInBounds_toArray, List.set_cons_zero, List.set_cons_succ] <;> rfl) ?_
  refine Lin.may 73 (!B70) (by cases B70 <;> kernel_rfl) rfl (by intro hc; (try simp only [hc, gv_true]); go_simp <;> with_reducible rfl) (by simp only [Act.put, List.setIfInBounds_toArray, List.set_cons_zero, List.set_cons_succ] <;> rfl) ?_
  refine Lin.or 74 70 73 rfl rfl rfl rfl rfl ?_
  intro B74 hB74 aa ha; simp only [Act.put, List.setIfInBounds_toArray, List.set_cons_zero, List.set_cons_succ] at ha; subst ha; replace hB74 := Lib.hid hB74
  refine Lin.done (hK _ _ ?_)
  have hB : B74 = false := by simp [hB70.out, hB74.out]
  refine wp_cond_false (congrArg Value.bool hB) ?_
  refine wp_skip ?_
  refine hK1 _ _ ?_
  clear hK1 K1 hK K hB
  refine wp_seq_k (fun K hK => ?_)
  refine Lin.begin ?_
  refine Lin.take 75 rfl rfl (by go_simp <;> with_reducible rfl) (by simp only [Act.put, List.setIfInBounds_toArray, List.set_cons_zero, List.set_cons_succ] <;> rfl) ?_
  refine Lin.take 76 rfl rfl (by go_simp <;> with_reducible rfl) (by simp only [Act.put, List.setIfInBounds_toArray, List.set_cons_zero, List.set_cons_succ] <;> rfl) ?_
  refine Lin.take 77 rfl rfl (by go_simp <;> with_reducible rfl) (by simp only [Act.put, List.setIfInBounds_toArray, List.set_cons_zero, List.set_cons_succ] <;> rfl) ?_
  refine Lin.take 78 rfl rfl (by go_simp <;> with_reducible rfl) (by simp only [Act.put, List.setIfInBounds_toArray, List.set_cons_zero, List.set_cons_succ] <;> rfl) ?_
  refine Lin.take 79 rfl rfl (by go_simp <;> with_reducible rfl) (by simp only [Act.put, List.setIfInBounds_toArray, List.set_cons_zero, List.set_cons_succ] <;> rfl) ?_
  refine Lin.take 80 rfl rfl (by go_simp <;> with_reducible rfl) (by simp only [Act.put, List.setIfInBounds_toArray, List.set_cons_zero, List.set_cons_succ] <;> rfl) ?_
  refine Lin.takeW 17 rfl rfl (by go_simp; exact ⟨rfl, rfl⟩) (by simp only [Act.put, List.setIfInBounds_toArray, List.set_cons_zero, List.set_cons_succ] <;> rfl) ?_
  intro w5a hy1
  obtain ⟨p17, hp⟩ : ∃ q, q = w5.heap.size := ⟨_, rfl⟩
  rw [← hp]
  have ht : w5a.there p17 0 5 := there_of_block (cs := #[.int .i64 0, .int .i64 0, .int .i64 0, .int .i64 0, .int .i64 0]) (T := 39) (by rw [hy1, hp]; exact heap_alloc_new _ _)
  have hby : Below w5.heap.size w5 w5a := by rw [hy1]; exact (Below.refl _ _).alloc (Nat.le_refl _) _
  have hltp17 : p17 < w5a.heap.size := by rw [hy1, hp]; simp
  clear hy1
  refine wpList_store_mid rfl 39 (.tmp 17) (.tmp 80) rfl p17 0 #[.int .i64 a0, .int .i64 a2, .int .i64 b0, .int .i64 b2, .int .i64 l0] rfl rfl ht rfl (by simp [Value.oneCell']) ?_
  simp only [Act.put]
  obtain ⟨w6, hy2⟩ : ∃ y, y = w5a.setCells p17 0 (#[.int .i64 a0, .int .i64 a2, .int .i64 b0, .int .i64 b2, .int .i64 l0] : Array Value).toList := ⟨_, rfl⟩
  rw [← hy2]
  have HPp17 : Hid (w6.rangeAt p17 0 (#[.int .i64 a0, .int .i64 a2, .int .i64 b0, .int .i64 b2, .int .i64 l0] : Array Value).toList) := by rw [hy2]; exact Lib.hid (World.rangeAt_setCells_same _ _ _ _ ht)
  have hbn : Below w5.heap.size w5 w6 := by rw [hy2]; exact bsc hby (by omega) _ _
  have hltp17 : p17 < w6.heap.size := Nat.lt_of_lt_of_le hltp17 (by rw [hy2]; exact (bsc (Below.refl 0 w5a) (b := p17) (Nat.zero_le _) 0 _).size)
  have HB6 := Lib.hid (HB5.out.trans (hbn.mono HB5.out.size)); have HR6 := Lib.hid (rangeAt_below HR5.out hbn hg5); have hg6 : g < w6.heap.size := Nat.lt_of_lt_of_le hg5 hbn.size
  clear hy2 ht hby hp hbn
  refine Lin.done (hK _ _ ?_)
  clear hK K
  have HC9 : Hid (w6.cell? ⟨g, 9, none⟩ = some (.int .i64 l.ca)) := Lib.hid (HR6.out 9 _ rfl)
  have HC10 : Hid (w6.cell? ⟨g, 10, none⟩ = some (.int .i64 l.cl)) := Lib.hid (HR6.out 10 _ rfl)
  refine wp_seq_k (fun K hK => ?_)
  refine Lin.begin ?_
  refine Lin.take 81 rfl rfl (by go_simp <;> with_reducible rfl) (by simp only [Act.put, List.setIfInBounds_toArray, List.set_cons_zero, List.set_cons_succ] <;> rfl) ?_
  refine Lin.take 82 rfl rfl (by have hc := HC9.out; go_simp <;> with_reducible rfl) (by simp only [Act.put, List.setIfInBounds_toArray, List.set_cons_zero, List.set_cons_succ] <;> rfl) ?_
  refine Lin.take 83 rfl rfl (by go_simp <;> with_reducible rfl) (by simp only [Act.put, List.setIfInBounds_toArray, List.set_cons_zero, List.set_cons_succ] <;> rfl) ?_
  refine Lin.take 84 rfl rfl (by have hc := HC9.out; go_simp <;> with_reducible rfl) (by simp only [Act.put, List.setIfInBounds_toArray, List.set_cons_zero, List.set_cons_succ] <;> rfl) ?_
  refine Lin.take 85 rfl rfl (by go_simp <;> with_reducible rfl) (by simp only [Act.put, List.setIfInBounds_toArray, List.set_cons_zero, List.set_cons_succ] <;> rfl) ?_
  refine Lin.take 86 rfl rfl (by have hc := HC10.out; go_simp <;> with_reducible rfl) (by simp only [Act.put, List.setIfInBounds_toArray, List.set_cons_zero, List.set_cons_succ] <;> rfl) ?_
  refine Lin.take 87 rfl rfl (by go_simp <;> with_reducible rfl) (by simp only [Act.put, List.setIfInBounds_toArray, List.set_cons_zero, List.set_cons_succ] <;> rfl) ?_
  refine Lin.takeW 18 rfl rfl (by go_simp; exact ⟨rfl, rfl⟩) (by simp only [Act.put, List.setIfInBounds_toArray, List.set_cons_zero, List.set_cons_succ] <;> rfl) ?_
  intro w6a hy1
  obtain ⟨p18, hp⟩ : ∃ q, q = w6.heap.size := ⟨_, rfl⟩
  rw [← hp]
  have ht : w6a.there p18 0 5 := there_of_block (cs := #[.int .i64 0, .int .i64 0, .int .i64 0, .int .i64 0, .int .i64 0]) (T := 39) (by rw [hy1, hp]; exact heap_alloc_new _ _)
  have hby : Below w6.heap.size w6 w6a := by rw [hy1]; exact (Below.refl _ _).alloc (Nat.le_refl _) _
  have hltp18 : p18 < w6a.heap.size := by rw [hy1, hp]; simp
  clear hy1
  refine wpList_store_mid rfl 39 (.tmp 18) (.tmp 87) rfl p18 0 #[.int .i64 6, .int .i64 6, .int .i64 l.ca, .int .i64 l.ca, .int .i64 l.cl] rfl rfl ht rfl (by simp [Value.oneCell']) ?_
  simp only [Act.put]
  obtain ⟨w7, hy2⟩ : ∃ y, y = w6a.setCells p18 0 (#[.int .i64 6, .int .i64 6, .int .i64 l.ca, .int .i64 l.ca, .int .i64 l.cl] : Array Value).toList := ⟨_, rfl⟩
  rw [← hy2]
  have HPp18 : Hid (w7.rangeAt p18 0 (#[.int .i64 6, .int .i64 6, .int .i64 l.ca, .int .i64 l.ca, .int .i64 l.cl] : Array Value).toList) := by rw [hy2]; exact Lib.hid (World.rangeAt_setCells_same _ _ _ _ ht)
  have hbn : Below w6.heap.size w6 w7 := by rw [hy2]; exact bsc hby (by omega) _ _
  have hltp18 : p18 < w7.heap.size := Nat.lt_of_lt_of_le hltp18 (by rw [hy2]; exact (bsc (Below.refl 0 w6a) (b := p18) (Nat.zero_le _) 0 _).size)
  have HB7 := Lib.hid (HB6.out.trans (hbn.mono HB6.out.size)); have HR7 := Lib.hid (rangeAt_below HR6.out hbn hg6); have hg7 : g < w7.heap.size := Nat.lt_of_lt_of_le hg6 hbn.size; have HPp17 := Lib.hid (rangeAt_below HPp17.out hbn hltp17); have hltp17 : p17 < w7.heap.size := Nat.lt_of_lt_of_le hltp17 hbn.size
  clear hy2 ht hby hp hbn
  refine Lin.done (hK _ _ ?_)
  clear hK K
  have HC4 : Hid (w7.cell? ⟨g, 4, none⟩ = some (.int .i64 l.gr)) := Lib.hid (HR7.out 4 _ rfl)
  refine wp_seq_k (fun K9 hK9 => ?_)
  have HK9 := Lib.hid hK9
  clear hK9
  have hS : ∀ j : Nat, j < 5 → ∃ s z : Int, (∀ y, Below w7.heap.size w7 y → y.cell? ⟨p17, j, none⟩ = some (.int .i64 s)) ∧ (∀ y, Below w7.heap.size w7 y → y.cell? ⟨p18, j, none⟩ = some (.int .i64 z)) ∧ s = [a0, a2, b0, b2, l0][j]?.getD 0 ∧ z = [6, 6, l.ca, l.ca, l.cl][j]?.getD 0 := by
    intro j hj
    have e : j = 0 ∨ j = 1 ∨ j = 2 ∨ j = 3 ∨ j = 4 := by omega
    rcases e with rfl | rfl | rfl | rfl | rfl
    · exact ⟨_, _, fun y hy => below_cell hy hltp17 (HPp17.out 0 _ rfl), fun y hy => below_cell hy hltp18 (HPp18.out 0 _ rfl), rfl, rfl⟩
    · exact ⟨_, _, fun y hy => below_cell hy hltp17 (HPp17.out 1 _ rfl), fun y hy => below_cell hy hltp18 (HPp18.out 1 _ rfl), rfl, rfl⟩
    · exact ⟨_, _, fun y hy => below_cell hy hltp17 (HPp17.out 2 _ rfl), fun y hy => below_cell hy hltp18 (HPp18.out 2 _ rfl), rfl, rfl⟩
    · exact ⟨_, _, fun y hy => below_cell hy hltp17 (HPp17.out 3 _ rfl), fun y hy => below_cell hy hltp18 (HPp18.out 3 _ rfl), rfl, rfl⟩
    · exact ⟨_, _, fun y hy => below_cell hy hltp17 (HPp17.out 4 _ rfl), fun y hy => below_cell hy hltp18 (HPp18.out 4 _ rfl), rfl, rfl⟩
  have HSJ := Lib.hid hS
  have CR : Hid (∀ y, Below w7.heap.size w7 y → y.cell? ⟨g, 4, none⟩ = some (.int .i64 l.gr)) := Lib.hid fun y hy => below_cell hy hg7 HC4.out
  clear hS
  go_wp2
  go_loopw [88] (fun iv wr => ∃ i : Nat, iv = .int .i64 (i : Int) ∧ i ≤ 5 ∧ Hid (Below w7.heap.size w7 wr)) (fun iv _ => 5 - (intOf iv).toNat)
  case atStart => exact ⟨0, rfl, by omega, Lib.hid (Below.refl _ _)⟩
  case round =>
    obtain ⟨i, rfl, hin, HBW⟩ := hrel
    by_cases hi : i < 5
    · have hiI : (i : Int) < 5 := by omega
      have hi0 : (0 : Int) ≤ (i : Int) := by omega
      obtain ⟨si, zi, hcs, hcz, hsv, hzv⟩ := HSJ.out i hi
      have CS := Lib.hid hcs
      have CZ := Lib.hid hcz
      have HSV := Lib.hid hsv
      have HZV := Lib.hid hzv
      have hsm := HSM.out
      have hsb : (0 ≤ si ∧ si + zi ≤ l.gr) ∧ si ≤ 40000 ∧ 0 ≤ zi ∧ zi ≤ 40000 := by
        have e : i = 0 ∨ i = 1 ∨ i = 2 ∨ i = 3 ∨ i = 4 := by omega
        rcases e with rfl | rfl | rfl | rfl | rfl <;> simp at hsv hzv <;> omega
      have HSB := Lib.hid hsb
      have hsi0 : ¬ si < 0 := by omega
      have hsz : ¬ l.gr < si + zi := by omega
      have HSM := Lib.hid (And.intro hsm hsb)
      clear hcs hcz hsv hzv hsm hsb
      have HB : Hid (Below w7.heap.size w7 wr.drew) := Lib.hid HBW.out.drew
      have hs : w7.heap.size ≤ wr.drew.heap.size := HB.out.size
      go_wp2
      refine Rest.begin 17 (by kernel_rfl) (by kernel_rfl) ?_
      refine Rest.take 0 91 rfl (by kernel_rfl) (by kernel_rfl) (by kernel_rfl) (fun _ _ _ h => h) (by rfl) (by rfl) (by intro x hx; go_simp <;> with_reducible rfl) (by simp only [Act.put, List.setIfInBounds_toArray, List.set_cons_zero, List.set_cons_succ] <;> rfl) ?_
      refine Rest.take 1 92 rfl (by kernel_rfl) (by kernel_rfl) (by kernel_rfl) (fun _ _ _ h => h) (by rfl) (by rfl) (by intro x hx; have h1 := hiI; have h2 := hi0; go_simp <;> with_reducible rfl) (by simp only [Act.put, List.setIfInBounds_toArray, List.set_cons_zero, List.set_cons_succ] <;> rfl) ?_
      refine Rest.take 2 93 rfl (by kernel_rfl) (by kernel_rfl) (by kernel_rfl) (fun _ _ _ h => h) (by rfl) (by rfl) (by intro x hx; have hc := CS.out x (later HB hs hx); go_simp <;> with_reducible rfl) (by simp only [Act.put, List.setIfInBounds_toArray, List.set_cons_zero, List.set_cons_succ] <;> rfl) ?_
      refine Rest.take 3 94 (v := .bool false) rfl (by kernel_rfl) (by kernel_rfl) (by kernel_rfl) (fun _ _ _ h => h) (by rfl) (by rfl) (by intro x hx; have hh := hsi0; go_simp <;> (first | rfl | omega)) (by simp only [Act.put, List.setIfInBounds_toArray, List.set_cons_zero, List.set_cons_succ] <;> rfl) ?_
      refine Rest.take 4 95 rfl (by kernel_rfl) (by kernel_rfl) (by kernel_rfl) (fun _ _ _ h => h) (by rfl) (by rfl) (by intro x hx; go_simp <;> with_reducible rfl) (by simp only [Act.put, List.setIfInBounds_toArray, List.set_cons_zero, List.set_cons_succ] <;> rfl) ?_
      refine Rest.take 5 96 rfl (by kernel_rfl) (by kernel_rfl) (by kernel_rfl) (fun _ _ _ h => h) (by rfl) (by rfl) (by intro x hx; go_simp <;> with_reducible rfl) (by simp only [Act.put, List.setIfInBounds_toArray, List.set_cons_zero, List.set_cons_succ] <;> rfl) ?_
      refine Rest.take 6 97 rfl (by kernel_rfl) (by kernel_rfl) (by kernel_rfl) (fun _ _ _ h => h) (by rfl) (by rfl) (by intro x hx; have h1 := hiI; have h2 := hi0; go_simp <;> with_reducible rfl) (by simp only [Act.put, List.setIfInBounds_toArray, List.set_cons_zero, List.set_cons_succ] <;> rfl) ?_
      refine Rest.take 7 98 rfl (by kernel_rfl) (by kernel_rfl) (by kernel_rfl) (fun _ _ _ h => h) (by rfl) (by rfl) (by intro x hx; have hc := CS.out x (later HB hs hx); go_simp <;> with_reducible rfl) (by simp only [Act.put, List.setIfInBounds_toArray, List.set_cons_zero, List.set_cons_succ] <;> rfl) ?_
      refine Rest.take 8 99 rfl (by kernel_rfl) (by kernel_rfl) (by kernel_rfl) (fun _ _ _ h => h) (by rfl) (by rfl) (by intro x hx; go_simp <;> with_reducible rfl) (by simp only [Act.put, List.setIfInBounds_toArray, List.set_cons_zero, List.set_cons_succ] <;> rfl) ?_
      refine Rest.take 9 100 rfl (by kernel_rfl) (by kernel_rfl) (by kernel_rfl) (fun _ _ _ h => h) (by rfl) (by rfl) (by intro x hx; have h1 := hiI; have h2 := hi0; go_simp <;> with_reducible rfl) (by simp only [Act.put, List.setIfInBounds_toArray, List.set_cons_zero, List.set_cons_succ] <;> rfl) ?_
      refine Rest.take 10 101 rfl (by kernel_rfl) (by kernel_rfl) (by kernel_rfl) (fun _ _ _ h => h) (by rfl) (by rfl) (by intro x hx; have hc := CZ.out x (later HB hs hx); go_simp <;> with_reducible rfl) (by simp only [Act.put, List.setIfInBounds_toArray, List.set_cons_zero, List.set_cons_succ] <;> rfl) ?_
      refine Rest.take 11 102 (v := .int .i64 (si + zi)) rfl (by kernel_rfl) (by kernel_rfl) (by kernel_rfl) (fun _ _ _ h => h) (by rfl) (by rfl) (by intro x hx; go_simp <;> exact IntWalk.i64_in _ (by have := HSM.out; omega)) (by simp only [Act.put, List.setIfInBounds_toArray, List.set_cons_zero, List.set_cons_succ] <;> rfl) ?_
      refine Rest.take 12 103 rfl (by kernel_rfl) (by kernel_rfl) (by kernel_rfl) (fun _ _ _ h => h) (by rfl) (by rfl) (by intro x hx; go_simp <;> with_reducible rfl) (by simp only [Act.put, List.setIfInBounds_toArray, List.set_cons_zero, List.set_cons_succ] <;> rfl) ?_
      refine Rest.take 13 104 rfl (by kernel_rfl) (by kernel_rfl) (by kernel_rfl) (fun _ _ _ h => h) (by rfl) (by rfl) (by intro x hx; go_simp <;> with_reducible rfl) (by simp only [Act.put, List.setIfInBounds_toArray, List.set_cons_zero, List.set_cons_succ] <;> rfl) ?_
      refine Rest.take 14 105 rfl (by kernel_rfl) (by kernel_rfl) (by kernel_rfl) (fun _ _ _ h => h) (by rfl) (by rfl) (by intro x hx; have hc := CR.out x (later HB hs hx); go_simp <;> with_reducible rfl) (by simp only [Act.put, List.setIfInBounds_toArray, List.set_cons_zero, List.set_cons_succ] <;> rfl) ?_
      refine Rest.take 15 106 (v := .bool false) rfl (by kernel_rfl) (by kernel_rfl) (by kernel_rfl) (fun _ _ _ h => h) (by rfl) (by rfl) (by intro x hx; have hh := hsz; go_simp <;> (first | rfl | omega)) (by simp only [Act.put, List.setIfInBounds_toArray, List.set_cons_zero, List.set_cons_succ] <;> rfl) ?_
      refine Rest.take 16 107 rfl (by kernel_rfl) (by kernel_rfl) (by kernel_rfl) (fun _ _ _ h => h) (by rfl) (by rfl) (by intro x hx; go_simp <;> with_reducible rfl) (by simp only [Act.put, List.setIfInBounds_toArray, List.set_cons_zero, List.set_cons_succ] <;> rfl) ?_
      refine Rest.done (by kernel_rfl) ?_
      go_wp2
      rename World => wq
      go_loopw [109] (fun iv wr => ∃ k : Nat, iv = .int .i64 (k : Int) ∧ k ≤ i ∧ Hid (Below w7.heap.size w7 wr)) (fun iv _ => i - (intOf iv).toNat)
      case atStart => exact ⟨0, rfl, by omega, HB⟩
      case round =>
        clear HB hs
        obtain ⟨k, rfl, hkn, HBW2⟩ := hrel
        by_cases hk : k < i
        · have hkI : (k : Int) < 5 := by omega
          have hkiI : (k : Int) < i := by omega
          have hk0 : (0 : Int) ≤ (k : Int) := by omega
          obtain ⟨sk, zk, hcs, hcz, hsv, hzv⟩ := HSJ.out k (by omega)
          have CSk := Lib.hid hcs
          have CZk := Lib.hid hcz
          have hsm := HSM.out
          have hsi := HSV.out
          have hzi := HZV.out
          have hover : ¬ (si < sk + zk ∧ sk < si + zi) := by
            have e : (i = 1 ∧ k = 0) ∨ (i = 2 ∧ k = 0) ∨ (i = 2 ∧ k = 1) ∨ (i = 3 ∧ k = 0) ∨ (i = 3 ∧ k = 1) ∨ (i = 3 ∧ k = 2) ∨ (i = 4 ∧ k = 0) ∨ (i = 4 ∧ k = 1) ∨ (i = 4 ∧ k = 2) ∨ (i = 4 ∧ k = 3) := by omega
            rcases e with ⟨rfl, rfl⟩ | ⟨rfl, rfl⟩ | ⟨rfl, rfl⟩ | ⟨rfl, rfl⟩ | ⟨rfl, rfl⟩ | ⟨rfl, rfl⟩ | ⟨rfl, rfl⟩ | ⟨rfl, rfl⟩ | ⟨rfl, rfl⟩ | ⟨rfl, rfl⟩ <;> simp at hsv hzv hsi hzi <;> omega
          have hskb : 0 ≤ sk ∧ sk ≤ 40000 ∧ 0 ≤ zk ∧ zk ≤ 40000 := by
            have e : k = 0 ∨ k = 1 ∨ k = 2 ∨ k = 3 := by omega
            rcases e with rfl | rfl | rfl | rfl <;> simp at hsv hzv <;> omega
          have HSK := Lib.hid hskb
          have HOV := Lib.hid hover
          clear hcs hcz hsv hzv hsm hsi hzi hover hskb
          have HB : Hid (Below w7.heap.size w7 wr.drew) := Lib.hid HBW2.out.drew
          have hs : w7.heap.size ≤ wr.drew.heap.size := HB.out.size
          by_cases hcase : si < sk + zk
          · have hno : ¬ sk < si + zi := fun h => HOV.out ⟨hcase, h⟩
            go_wp2
            refine Rest.begin 24 (by kernel_rfl) (by kernel_rfl) ?_
            refine Rest.take 0 112 rfl (by kernel_rfl) (by kernel_rfl) (by kernel_rfl) (fun _ _ _ h => h) (by rfl) (by rfl) (by intro x hx; go_simp <;> with_reducible rfl) (by simp only [Act.put, List.setIfInBounds_toArray, List.set_cons_zero, List.set_cons_succ] <;> rfl) ?_
            refine Rest.take 1 113 rfl (by kernel_rfl) (by kernel_rfl) (by kernel_rfl) (fun _ _ _ h => h) (by rfl) (by rfl) (by intro x hx; have h1 := hiI; have h2 := hi0; go_simp <;> with_reducible rfl) (by simp only [Act.put, List.setIfInBounds_toArray, List.set_cons_zero, List.set_cons_succ] <;> rfl) ?_
            refine Rest.take 2 114 rfl (by kernel_rfl) (by kernel_rfl) (by kernel_rfl) (fun _ _ _ h => h) (by rfl) (by rfl) (by intro x hx; have hc := CS.out x (later HB hs hx); go_simp <;> with_reducible rfl) (by simp only [Act.put, List.setIfInBounds_toArray, List.set_cons_zero, List.set_cons_succ] <;> rfl) ?_
            refine Rest.take 3 115 rfl (by kernel_rfl) (by kernel_rfl) (by kernel_rfl) (fun _ _ _ h => h) (by rfl) (by rfl) (by intro x hx; go_simp <;> with_reducible rfl) (by simp only [Act.put, List.setIfInBounds_toArray, List.set_cons_zero, List.set_cons_succ] <;> rfl) ?_
            refine Rest.take 4 116 rfl (by kernel_rfl) (by kernel_rfl) (by kernel_rfl) (fun _ _ _ h => h) (by rfl) (by rfl) (by intro x hx; have h1 := hkI; have h2 := hk0; go_simp <;> with_reducible rfl) (by simp only [Act.put, List.setIfInBounds_toArray, List.set_cons_zero, List.set_cons_succ] <;> rfl) ?_
            refine Rest.take 5 117 rfl (by kernel_rfl) (by kernel_rfl) (by kernel_rfl) (fun _ _ _ h => h) (by rfl) (by rfl) (by intro x hx; have hc := CSk.out x (later HB hs hx); go_simp <;> with_reducible rfl) (by simp only [Act.put, List.setIfInBounds_toArray, List.set_cons_zero, List.set_cons_succ] <;> rfl) ?_
            refine Rest.take 6 118 rfl (by kernel_rfl) (by kernel_rfl) (by kernel_rfl) (fun _ _ _ h => h) (by rfl) (by rfl) (by intro x hx; go_simp <;> with_reducible rfl) (by simp only [Act.put, List.setIfInBounds_toArray, List.set_cons_zero, List.set_cons_succ] <;> rfl) ?_
            refine Rest.take 7 119 rfl (by kernel_rfl) (by kernel_rfl) (by kernel_rfl) (fun _ _ _ h => h) (by rfl) (by rfl) (by intro x hx; have h1 := hkI; have h2 := hk0; go_simp <;> with_reducible rfl) (by simp only [Act.put, List.setIfInBounds_toArray, List.set_cons_zero, List.set_cons_succ] <;> rfl) ?_
            refine Rest.take 8 120 rfl (by kernel_rfl) (by kernel_rfl) (by kernel_rfl) (fun _ _ _ h => h) (by rfl) (by rfl) (by intro x hx; have hc := CZk.out x (later HB hs hx); go_simp <;> with_reducible rfl) (by simp only [Act.put, List.setIfInBounds_toArray, List.set_cons_zero, List.set_cons_succ] <;> rfl) ?_
            refine Rest.take 9 121 (v := .int .i64 (sk + zk)) rfl (by kernel_rfl) (by kernel_rfl) (by kernel_rfl) (fun _ _ _ h => h) (by rfl) (by rfl) (by intro x hx; go_simp <;> exact IntWalk.i64_in _ (by have := HSM.out; have := HSK.out; omega)) (by simp only [Act.put, List.setIfInBounds_toArray, List.set_cons_zero, List.set_cons_succ] <;> rfl) ?_
            refine Rest.take 10 122 (v := .bool true) rfl (by kernel_rfl) (by kernel_rfl) (by kernel_rfl) (fun _ _ _ h => h) (by rfl) (by rfl) (by intro x hx; have hh := hcase; go_simp <;> (first | rfl | omega)) (by simp only [Act.put, List.setIfInBounds_toArray, List.set_cons_zero, List.set_cons_succ] <;> rfl) ?_
            refine Rest.take 11 123 rfl (by kernel_rfl) (by kernel_rfl) (by kernel_rfl) (fun _ _ _ h => h) (by rfl) (by rfl) (by intro x hx; go_simp <;> with_reducible rfl) (by simp only [Act.put, List.setIfInBounds_toArray, List.set_cons_zero, List.set_cons_succ] <;> rfl) ?_
            refine Rest.take 12 124 rfl (by kernel_rfl) (by kernel_rfl) (by kernel_rfl) (fun _ _ _ h => h) (by rfl) (by rfl) (by intro x hx; go_simp <;> with_reducible rfl) (by simp only [Act.put, List.setIfInBounds_toArray, List.set_cons_zero, List.set_cons_succ] <;> rfl) ?_
            refine Rest.take 13 125 rfl (by kernel_rfl) (by kernel_rfl) (by kernel_rfl) (fun _ _ _ h => h) (by rfl) (by rfl) (by intro x hx; have h1 := hkI; have h2 := hk0; go_simp <;> with_reducible rfl) (by simp only [Act.put, List.setIfInBounds_toArray, List.set_cons_zero, List.set_cons_succ] <;> rfl) ?_
            refine Rest.take 14 126 rfl (by kernel_rfl) (by kernel_rfl) (by kernel_rfl) (fun _ _ _ h => h) (by rfl) (by rfl) (by intro x hx; have hc := CSk.out x (later HB hs hx); go_simp <;> with_reducible rfl) (by simp only [Act.put, List.setIfInBounds_toArray, List.set_cons_zero, List.set_cons_succ] <;> rfl) ?_
            refine Rest.take 15 127 rfl (by kernel_rfl) (by kernel_rfl) (by kernel_rfl) (fun _ _ _ h => h) (by rfl) (by rfl) (by intro x hx; go_simp <;> with_reducible rfl) (by simp only [Act.put, List.setIfInBounds_toArray, List.set_cons_zero, List.set_cons_succ] <;> rfl) ?_
            refine Rest.take 16 128 rfl (by kernel_rfl) (by kernel_rfl) (by kernel_rfl) (fun _ _ _ h => h) (by rfl) (by rfl) (by intro x hx; have h1 := hiI; have h2 := hi0; go_simp <;> with_reducible rfl) (by simp only [Act.put, List.setIfInBounds_toArray, List.set_cons_zero, List.set_cons_succ] <;> rfl) ?_
            refine Rest.take 17 129 rfl (by kernel_rfl) (by kernel_rfl) (by kernel_rfl) (fun _ _ _ h => h) (by rfl) (by rfl) (by intro x hx; have hc := CS.out x (later HB hs hx); go_simp <;> with_reducible rfl) (by simp only [Act.put, List.setIfInBounds_toArray, List.set_cons_zero, List.set_cons_succ] <;> rfl) ?_
            refine Rest.take 18 130 rfl (by kernel_rfl) (by kernel_rfl) (by kernel_rfl) (fun _ _ _ h => h) (by rfl) (by rfl) (by intro x hx; go_simp <;> with_reducible rfl) (by simp only [Act.put, List.setIfInBounds_toArray, List.set_cons_zero, List.set_cons_succ] <;> rfl) ?_
            refine Rest.take 19 131 rfl (by kernel_rfl) (by kernel_rfl) (by kernel_rfl) (fun _ _ _ h => h) (by rfl) (by rfl) (by intro x hx; have h1 := hiI; have h2 := hi0; go_simp <;> with_reducible rfl) (by simp only [Act.put, List.setIfInBounds_toArray, List.set_cons_zero, List.set_cons_succ] <;> rfl) ?_
            refine Rest.take 20 132 rfl (by kernel_rfl) (by kernel_rfl) (by kernel_rfl) (fun _ _ _ h => h) (by rfl) (by rfl) (by intro x hx; have hc := CZ.out x (later HB hs hx); go_simp <;> with_reducible rfl) (by simp only [Act.put, List.setIfInBounds_toArray, List.set_cons_zero, List.set_cons_succ] <;> rfl) ?_
            refine Rest.take 21 133 (v := .int .i64 (si + zi)) rfl (by kernel_rfl) (by kernel_rfl) (by kernel_rfl) (fun _ _ _ h => h) (by rfl) (by rfl) (by intro x hx; go_simp <;> exact IntWalk.i64_in _ (by have := HSM.out; have := HSK.out; omega)) (by simp only [Act.put, List.setIfInBounds_toArray, List.set_cons_zero, List.set_cons_succ] <;> rfl) ?_
            refine Rest.take 22 134 (v := .bool false) rfl (by kernel_rfl) (by kernel_rfl) (by kernel_rfl) (fun _ _ _ h => h) (by rfl) (by rfl) (by intro x hx; have hh := hno; go_simp <;> (first | rfl | omega)) (by simp only [Act.put, List.setIfInBounds_toArray, List.set_cons_zero, List.set_cons_succ] <;> rfl) ?_
            refine Rest.take 23 135 rfl (by kernel_rfl) (by kernel_rfl) (by kernel_rfl) (fun _ _ _ h => h) (by rfl) (by rfl) (by intro x hx; go_simp <;> with_reducible rfl) (by simp only [Act.put, List.setIfInBounds_toArray, List.set_cons_zero, List.set_cons_succ] <;> rfl) ?_
            refine Rest.done (by kernel_rfl) ?_
            go_wp2
            go_roundw
            case rel => exact ⟨k + 1, by go_num, by omega, HB⟩
            case measure => simp [intOf]; omega
          · go_wp2
            refine Rest.begin 24 (by kernel_rfl) (by kernel_rfl) ?_
            refine Rest.take 0 112 rfl (by kernel_rfl) (by kernel_rfl) (by kernel_rfl) (fun _ _ _ h => h) (by rfl) (by rfl) (by intro x hx; go_simp <;> with_reducible rfl) (by simp only [Act.put, List.setIfInBounds_toArray, List.set_cons_zero, List.set_cons_succ] <;> rfl) ?_
            refine Rest.take 1 113 rfl (by kernel_rfl) (by kernel_rfl) (by kernel_rfl) (fun _ _ _ h => h) (by rfl) (by rfl) (by intro x hx; have h1 := hiI; have h2 := hi0; go_simp <;> with_reducible rfl) (by simp only [Act.put, List.setIfInBounds_toArray, List.set_cons_zero, List.set_cons_succ] <;> rfl) ?_
            refine Rest.take 2 114 rfl (by kernel_rfl) (by kernel_rfl) (by kernel_rfl) (fun _ _ _ h => h) (by rfl) (by rfl) (by intro x hx; have hc := CS.out x (later HB hs hx); go_simp <;> with_reducible rfl) (by simp only [Act.put, List.setIfInBounds_toArray, List.set_cons_zero, List.set_cons_succ] <;> rfl) ?_
            refine Rest.take 3 115 rfl (by kernel_rfl) (by kernel_rfl) (by kernel_rfl) (fun _ _ _ h => h) (by rfl) (by rfl) (by intro x hx; go_simp <;> with_reducible rfl) (by simp only [Act.put, List.setIfInBounds_toArray, List.set_cons_zero, List.set_cons_succ] <;> rfl) ?_
            refine Rest.take 4 116 rfl (by kernel_rfl) (by kernel_rfl) (by kernel_rfl) (fun _ _ _ h => h) (by rfl) (by rfl) (by intro x hx; have h1 := hkI; have h2 := hk0; go_simp <;> with_reducible rfl) (by simp only [Act.put, List.setIfInBounds_toArray, List.set_cons_zero, List.set_cons_succ] <;> rfl) ?_
            refine Rest.take 5 117 rfl (by kernel_rfl) (by kernel_rfl) (by kernel_rfl) (fun _ _ _ h => h) (by rfl) (by rfl) (by intro x hx; have hc := CSk.out x (later HB hs hx); go_simp <;> with_reducible rfl) (by simp only [Act.put, List.setIfInBounds_toArray, List.set_cons_zero, List.set_cons_succ] <;> rfl) ?_
            refine Rest.take 6 118 rfl (by kernel_rfl) (by kernel_rfl) (by kernel_rfl) (fun _ _ _ h => h) (by rfl) (by rfl) (by intro x hx; go_simp <;> with_reducible rfl) (by simp only [Act.put, List.setIfInBounds_toArray, List.set_cons_zero, List.set_cons_succ] <;> rfl) ?_
            refine Rest.take 7 119 rfl (by kernel_rfl) (by kernel_rfl) (by kernel_rfl) (fun _ _ _ h => h) (by rfl) (by rfl) (by intro x hx; have h1 := hkI; have h2 := hk0; go_simp <;> with_reducible rfl) (by simp only [Act.put, List.setIfInBounds_toArray, List.set_cons_zero, List.set_cons_succ] <;> rfl) ?_
            refine Rest.take 8 120 rfl (by kernel_rfl) (by kernel_rfl) (by kernel_rfl) (fun _ _ _ h => h) (by rfl) (by rfl) (by intro x hx; have hc := CZk.out x (later HB hs hx); go_simp <;> with_reducible rfl) (by simp only [Act.put, List.setIfInBounds_toArray, List.set_cons_zero, List.set_cons_succ] <;> rfl) ?_
            refine Rest.take 9 121 (v := .int .i64 (sk + zk)) rfl (by kernel_rfl) (by kernel_rfl) (by kernel_rfl) (fun _ _ _ h => h) (by rfl) (by rfl) (by intro x hx; go_simp <;> exact IntWalk.i64_in _ (by have := HSM.out; have := HSK.out; omega)) (by simp only [Act.put, List.setIfInBounds_toArray, List.set_cons_zero, List.set_cons_succ] <;> rfl) ?_
            refine Rest.take 10 122 (v := .bool false) rfl (by kernel_rfl) (by kernel_rfl) (by kernel_rfl) (fun _ _ _ h => h) (by rfl) (by rfl) (by intro x hx; have hh := hcase; go_simp <;> (first | rfl | omega)) (by simp only [Act.put, List.setIfInBounds_toArray, List.set_cons_zero, List.set_cons_succ] <;> rfl) ?_
            refine Rest.take 11 123 rfl (by kernel_rfl) (by kernel_rfl) (by kernel_rfl) (fun _ _ _ h => h) (by rfl) (by rfl) (by intro x hx; go_simp <;> with_reducible rfl) (by simp only [Act.put, List.setIfInBounds_toArray, List.set_cons_zero, List.set_cons_succ] <;> rfl) ?_
            refine Rest.skip 12 124 rfl (by kernel_rfl) (by kernel_rfl) (by kernel_rfl) (fun _ _ _ h => h) (by rfl) (by rfl) (by simp only [Act.put, List.setIfInBounds_toArray, List.set_cons_zero, List.set_cons_succ] <;> rfl) ?_
            refine Rest.skip 13 125 rfl (by kernel_rfl) (by kernel_rfl) (by kernel_rfl) (fun _ _ _ h => h) (by rfl) (by rfl) (by simp only [Act.put, List.setIfInBounds_toArray, List.set_cons_zero, List.set_cons_succ] <;> rfl) ?_
            refine Rest.skip 14 126 rfl (by kernel_rfl) (by kernel_rfl) (by kernel_rfl) (fun _ _ _ h => h) (by rfl) (by rfl) (by simp only [Act.put, List.setIfInBounds_toArray, List.set_cons_zero, List.set_cons_succ] <;> rfl) ?_
            refine Rest.skip 15 127 rfl (by kernel_rfl) (by kernel_rfl) (by kernel_rfl) (fun _ _ _ h => h) (by rfl) (by rfl) (by simp only [Act.put, List.setIfInBounds_toArray, List.set_cons_zero, List.set_cons_succ] <;> rfl) ?_
            refine Rest.skip 16 128 rfl (by kernel_rfl) (by kernel_rfl) (by kernel_rfl) (fun _ _ _ h => h) (by rfl) (by rfl) (by simp only [Act.put, List.setIfInBounds_toArray, List.set_cons_zero, List.set_cons_succ] <;> rfl) ?_
            refine Rest.skip 17 129 rfl (by kernel_rfl) (by kernel_rfl) (by kernel_rfl) (fun _ _ _ h => h) (by rfl) (by rfl) (by simp only [Act.put, List.setIfInBounds_toArray, List.set_cons_zero, List.set_cons_succ] <;> rfl) ?_
            refine Rest.skip 18 130 rfl (by kernel_rfl) (by kernel_rfl) (by kernel_rfl) (fun _ _ _ h => h) (by rfl) (by rfl) (by simp only [Act.put, List.setIfInBounds_toArray, List.set_cons_zero, List.set_cons_succ] <;> rfl) ?_
            refine Rest.skip 19 131 rfl (by kernel_rfl) (by kernel_rfl) (by kernel_rfl) (fun _ _ _ h => h) (by rfl) (by rfl) (by simp only [Act.put, List.setIfInBounds_toArray, List.set_cons_zero, List.set_cons_succ] <;> rfl) ?_
            refine Rest.skip 20 132 rfl (by kernel_rfl) (by kernel_rfl) (by kernel_rfl) (fun _ _ _ h => h) (by rfl) (by rfl) (by simp only [Act.put, List.setIfInBounds_toArray, List.set_cons_zero, List.set_cons_succ] <;> rfl) ?_
            refine Rest.skip 21 133 rfl (by kernel_rfl) (by kernel_rfl) (by kernel_rfl) (fun _ _ _ h => h) (by rfl) (by rfl) (by simp only [Act.put, List.setIfInBounds_toArray, List.set_cons_zero, List.set_cons_succ] <;> rfl) ?_
            refine Rest.skip 22 134 rfl (by kernel_rfl) (by kernel_rfl) (by kernel_rfl) (fun _ _ _ h => h) (by rfl) (by rfl) (by simp only [Act.put, List.setIfInBounds_toArray, List.set_cons_zero, List.set_cons_succ] <;> rfl) ?_
            refine Rest.take 23 135 rfl (by kernel_rfl) (by kernel_rfl) (by kernel_rfl) (fun _ _ _ h => h) (by rfl) (by rfl) (by intro x hx; go_simp <;> with_reducible rfl) (by simp only [Act.put, List.setIfInBounds_toArray, List.set_cons_zero, List.set_cons_succ] <;> rfl) ?_
            refine Rest.done (by kernel_rfl) ?_
            go_wp2
            go_roundw
            case rel => exact ⟨k + 1, by go_num, by omega, HB⟩
            case measure => simp [intOf]; omega
        · have hkiI : ¬ (k : Int) < i := by omega
          go_wp2
          go_roundw
          case rel => exact ⟨i + 1, by go_num, by omega, HBW2⟩
          case measure => simp [intOf]; omega
    · have hiI : ¬ (i : Int) < 5 := by omega
      go_wp2
      refine HK9.out _ _ ?_
      go_wp2
      go_ret
      exact ⟨rfl, HB7.out.trans (HBW.out.mono HB7.out.size)⟩

end Go.Proofs.Ytjjknjkpkoeelaa
