/- Configurations: both implementations say the same. -/
import Derived.Test.YtgpfjinkmagelaaChecked
import Derived.Test.YtgpfjinkmagelaaKit2
set_option linter.unusedVariables false
set_option linter.unusedSimpArgs false
namespace Go.Proofs.Ytgpfjinkmagelaa
open Go Go.RowKit Go.Lib

def geoOk (r b t s o : Int) : Prop := 0 ≤ r ∧ r ≤ 16384 ∧ 1 ≤ b ∧ b ≤ 64 ∧ 1 ≤ t ∧ t ≤ 16 ∧ 1 ≤ s ∧ s ≤ 64 ∧ 0 ≤ o ∧ o ≤ 3
instance (r b t s o : Int) : Decidable (geoOk r b t s o) := by unfold geoOk; infer_instance
def cfgOk (d wi ti sp r b t s o a g : Int) : Prop := 4 ≤ d ∧ d ≤ 60 ∧ 4 ≤ wi ∧ wi ≤ 16 ∧ wi ≤ d ∧ 1 ≤ ti ∧ ti ≤ 256 ∧ 0 ≤ sp ∧ sp ≤ 65535 ∧ geoOk r b t s o ∧ 1 ≤ a ∧ 1 ≤ g ∧ 12 + 2 * a + g ≤ r
instance (d wi ti sp r b t s o a g : Int) : Decidable (cfgOk d wi ti sp r b t s o a g) := by unfold cfgOk; infer_instance

theorem ret_dec {b : Bool} {p : Prop} [Decidable p] (h : b = true ↔ p) : Ending.returned (.bool b) = .returned (.bool (decide p)) := by
  have : b = decide p := by rw [Bool.eq_iff_iff]; simpa using h
  rw [this]

set_option maxRecDepth 100000 in
theorem within_any (n lo hi : Int) (w : World) :
    Calls Try.prog 44 #[.int .i64 n, .int .i64 lo, .int .i64 hi] w fun e w' => e = .returned (.bool (decide (lo ≤ n ∧ n ≤ hi))) ∧ w = w' := by
  by_cases h : lo ≤ n
  · go_enter Try.func44, Try.ntmps44
    go_wp2
    go_ret
    refine ⟨ret_bool ?_, rfl⟩
    rw [Bool.eq_iff_iff]
    simp only [Bool.and_eq_true, decide_eq_true_eq, Bool.false_eq_true, false_iff]
    omega
  · go_enter Try.func44, Try.ntmps44
    go_wp2
    go_ret
    refine ⟨ret_bool ?_, rfl⟩
    rw [Bool.eq_iff_iff]
    simp only [Bool.and_eq_true, decide_eq_true_eq, Bool.false_eq_true, false_iff]
    omega

set_option maxRecDepth 100000 in
theorem refWithin_any (n lo hi : Int) (w : World) :
    Calls Try.prog 28 #[.int .i64 n, .int .i64 lo, .int .i64 hi] w fun e w' => e = .returned (.bool (decide (lo ≤ n ∧ n ≤ hi))) ∧ w = w' := by
  by_cases h : lo ≤ n
  · go_enter Try.func28, Try.ntmps28
    go_wp2
    go_ret
    refine ⟨ret_bool ?_, rfl⟩
    rw [Bool.eq_iff_iff]
    simp only [Bool.and_eq_true, decide_eq_true_eq, Bool.false_eq_true, false_iff]
    omega
  · go_enter Try.func28, Try.ntmps28
    go_wp2
    go_ret
    refine ⟨ret_bool ?_, rfl⟩
    rw [Bool.eq_iff_iff]
    simp only [Bool.and_eq_true, decide_eq_true_eq, Bool.false_eq_true, false_iff]
    omega

set_option maxRecDepth 100000 in
set_option maxHeartbeats 1600000 in
theorem geoValid_any (r b t s o : Int) (w : World) :
    Calls Try.prog 38 #[.agg #[.int .i64 r, .int .i64 b, .int .i64 t, .int .i64 s, .int .i64 o]] w fun e w' => e = .returned (.bool (decide (geoOk r b t s o))) ∧ Below w.heap.size w w' := by
  go_enter Try.func38, Try.ntmps38
  go_wp2_with (go_at_call 44; refine (within_any _ _ _ _).mono ?_; rintro e wz ⟨rfl, rfl⟩)
  all_goals go_ret
  all_goals
    refine ⟨?_, (Below.refl _ _).alloc (Nat.le_refl _) _⟩
    refine ret_bool ?_
    rw [Bool.eq_iff_iff]
    simp only [Bool.and_eq_true, decide_eq_true_eq, Bool.false_eq_true, false_iff]
    unfold geoOk
    omega

set_option maxRecDepth 100000 in
set_option maxHeartbeats 1600000 in
theorem refGeoValid_any (r b t s o : Int) (w : World) :
    Calls Try.prog 37 #[.agg #[.int .i64 r, .int .i64 b, .int .i64 t, .int .i64 s, .int .i64 o]] w fun e w' => e = .returned (.bool (decide (geoOk r b t s o))) ∧ Below w.heap.size w w' := by
  go_enter Try.func37, Try.ntmps37
  go_wp2
  all_goals go_ret
  all_goals
    refine ⟨?_, (Below.refl _ _).alloc (Nat.le_refl _) _⟩
    refine ret_bool ?_
    rw [Bool.eq_iff_iff]
    simp only [Bool.and_eq_true, decide_eq_true_eq, Bool.false_eq_true, false_iff]
    unfold geoOk
    omega

/-- A configuration as Go passes it. -/
def cfgAgg (d wi ti sp r b t s o a g : Int) : Value := .agg #[.int .i64 d, .int .i64 wi, .int .i64 ti, .int .i64 sp, .int .i64 r, .int .i64 b, .int .i64 t, .int .i64 s, .int .i64 o, .int .i64 a, .int .i64 g]

set_option maxRecDepth 100000 in
set_option maxHeartbeats 3200000 in
theorem cfgValid_any (d wi ti sp r b t s o a g : Int) (w : World) (ha0 : -9223372036854775808 ≤ a) (ha : a ≤ 9223372036854775807) (hg0 : -9223372036854775808 ≤ g) (hg : g ≤ 9223372036854775807) :
    Calls Try.prog 29 #[.agg #[.int .i64 d, .int .i64 wi, .int .i64 ti, .int .i64 sp, .int .i64 r, .int .i64 b, .int .i64 t, .int .i64 s, .int .i64 o, .int .i64 a, .int .i64 g]] w fun e w' => e = .returned (.bool (decide (cfgOk d wi ti sp r b t s o a g))) ∧ Below w.heap.size w w' := by
  by_cases hgeo : geoOk r b t s o
  · have hr0 := hgeo.1
    have hr1 := hgeo.2.1
    have hd : decide (geoOk r b t s o) = true := decide_eq_true hgeo
    have HG := Lib.hid hgeo
    clear hgeo
    go_enter Try.func29, Try.ntmps29
    go_wp2_with (first | (go_at_call 38; refine (geoValid_any _ _ _ _ _ _).mono ?_; rintro e wz ⟨rfl, hbz⟩; rw [hd]; have c4 : wz.cell? ⟨w.heap.size, 4, none⟩ = some (.int .i64 r) := below_cell hbz (by simp) (by simp); have c9 : wz.cell? ⟨w.heap.size, 9, none⟩ = some (.int .i64 a) := below_cell hbz (by simp) (by simp); have c10 : wz.cell? ⟨w.heap.size, 10, none⟩ = some (.int .i64 g) := below_cell hbz (by simp) (by simp); have hB := ((Below.refl w.heap.size w).alloc (Nat.le_refl _) _).trans (hbz.mono (by simp)); have HBZ := Lib.hid hB; clear hB hbz))
    all_goals go_ret
    all_goals
      refine ⟨?_, by first | exact HBZ.out | exact (Below.refl _ _).alloc (Nat.le_refl _) _⟩
      refine ret_bool ?_
      rw [Bool.eq_iff_iff]
      simp only [Bool.and_eq_true, decide_eq_true_eq, Bool.false_eq_true, false_iff]
      unfold cfgOk
      simp only [eq_true HG.out, true_and]
      first
        | omega
        | (simp only [Bool.not_eq_true', Bool.not_eq_false', decide_eq_true_eq, decide_eq_false_iff_not, wrap64] at *; omega)
  · have hd : decide (geoOk r b t s o) = false := decide_eq_false hgeo
    have HG := Lib.hid hgeo
    clear hgeo
    go_enter Try.func29, Try.ntmps29
    go_wp2_with (first | (go_at_call 38; refine (geoValid_any _ _ _ _ _ _).mono ?_; rintro e wz ⟨rfl, hbz⟩; rw [hd]; have c4 : wz.cell? ⟨w.heap.size, 4, none⟩ = some (.int .i64 r) := below_cell hbz (by simp) (by simp); have c9 : wz.cell? ⟨w.heap.size, 9, none⟩ = some (.int .i64 a) := below_cell hbz (by simp) (by simp); have c10 : wz.cell? ⟨w.heap.size, 10, none⟩ = some (.int .i64 g) := below_cell hbz (by simp) (by simp); have hB := ((Below.refl w.heap.size w).alloc (Nat.le_refl _) _).trans (hbz.mono (by simp)); have HBZ := Lib.hid hB; clear hB hbz))
    all_goals go_ret
    all_goals
      refine ⟨?_, by first | exact HBZ.out | exact (Below.refl _ _).alloc (Nat.le_refl _) _⟩
      refine ret_bool ?_
      rw [Bool.eq_iff_iff]
      simp only [Bool.and_eq_true, decide_eq_true_eq, Bool.false_eq_true, false_iff]
      unfold cfgOk
      exact fun h => HG.out h.2.2.2.2.2.2.2.2.2.1

set_option maxRecDepth 100000 in
set_option maxHeartbeats 3200000 in
theorem refCfgValid_any (d wi ti sp r b t s o a g : Int) (w : World) (ha0 : -9223372036854775808 ≤ a) (ha : a ≤ 9223372036854775807) (hg0 : -9223372036854775808 ≤ g) (hg : g ≤ 9223372036854775807) :
    Calls Try.prog 27 #[.agg #[.int .i64 d, .int .i64 wi, .int .i64 ti, .int .i64 sp, .int .i64 r, .int .i64 b, .int .i64 t, .int .i64 s, .int .i64 o, .int .i64 a, .int .i64 g]] w fun e w' => e = .returned (.bool (decide (cfgOk d wi ti sp r b t s o a g))) ∧ Below w.heap.size w w' := by
  by_cases hgeo : geoOk r b t s o
  · have hr0 := hgeo.1
    have hr1 := hgeo.2.1
    have hd : decide (geoOk r b t s o) = true := decide_eq_true hgeo
    have HG := Lib.hid hgeo
    clear hgeo
    go_enter Try.func27, Try.ntmps27
    go_wp2_with (first | (go_at_call 37; refine (refGeoValid_any _ _ _ _ _ _).mono ?_; rintro e wz ⟨rfl, hbz⟩; rw [hd]; have c4 : wz.cell? ⟨w.heap.size, 4, none⟩ = some (.int .i64 r) := below_cell hbz (by simp) (by simp); have c9 : wz.cell? ⟨w.heap.size, 9, none⟩ = some (.int .i64 a) := below_cell hbz (by simp) (by simp); have c10 : wz.cell? ⟨w.heap.size, 10, none⟩ = some (.int .i64 g) := below_cell hbz (by simp) (by simp); have hB := ((Below.refl w.heap.size w).alloc (Nat.le_refl _) _).trans (hbz.mono (by simp)); have HBZ := Lib.hid hB; clear hB hbz) | (go_at_call 28; refine (refWithin_any _ _ _ _).mono ?_; rintro e wz ⟨rfl, rfl⟩))
    all_goals go_ret
    all_goals
      refine ⟨?_, by first | exact HBZ.out | exact (Below.refl _ _).alloc (Nat.le_refl _) _⟩
      refine ret_bool ?_
      rw [Bool.eq_iff_iff]
      simp only [Bool.and_eq_true, decide_eq_true_eq, Bool.false_eq_true, false_iff]
      unfold cfgOk
      simp only [eq_true HG.out, true_and]
      first
        | omega
        | (simp only [Bool.not_eq_true', Bool.not_eq_false', decide_eq_true_eq, decide_eq_false_iff_not, wrap64] at *; omega)
  · have hd : decide (geoOk r b t s o) = false := decide_eq_false hgeo
    have HG := Lib.hid hgeo
    clear hgeo
    go_enter Try.func27, Try.ntmps27
    go_wp2_with (first | (go_at_call 37; refine (refGeoValid_any _ _ _ _ _ _).mono ?_; rintro e wz ⟨rfl, hbz⟩; rw [hd]; have c4 : wz.cell? ⟨w.heap.size, 4, none⟩ = some (.int .i64 r) := below_cell hbz (by simp) (by simp); have c9 : wz.cell? ⟨w.heap.size, 9, none⟩ = some (.int .i64 a) := below_cell hbz (by simp) (by simp); have c10 : wz.cell? ⟨w.heap.size, 10, none⟩ = some (.int .i64 g) := below_cell hbz (by simp) (by simp); have hB := ((Below.refl w.heap.size w).alloc (Nat.le_refl _) _).trans (hbz.mono (by simp)); have HBZ := Lib.hid hB; clear hB hbz) | (go_at_call 28; refine (refWithin_any _ _ _ _).mono ?_; rintro e wz ⟨rfl, rfl⟩))
    all_goals go_ret
    all_goals
      refine ⟨?_, by first | exact HBZ.out | exact (Below.refl _ _).alloc (Nat.le_refl _) _⟩
      refine ret_bool ?_
      rw [Bool.eq_iff_iff]
      simp only [Bool.and_eq_true, decide_eq_true_eq, Bool.false_eq_true, false_iff]
      unfold cfgOk
      exact fun h => HG.out h.2.2.2.2.2.2.2.2.2.1

end Go.Proofs.Ytgpfjinkmagelaa
