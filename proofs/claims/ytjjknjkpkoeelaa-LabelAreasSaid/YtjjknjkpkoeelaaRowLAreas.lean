/- LabelAreas: for every input the statement returns true and its arguments read afterwards as they did before. No condition. -/
import Derived.Test.YtjjknjkpkoeelaaLift
import Derived.Test.YtjjknjkpkoeelaaLawLAreas
import Derived.Test.YtjjknjkpkoeelaaRead
import Derived.Test.YtjjknjkpkoeelaaReadL
import Derived.Test.YtjjknjkpkoeelaaReadC
set_option linter.unusedVariables false
namespace Go.Proofs.Ytjjknjkpkoeelaa.lawLabelAreas
open Go Go.ChangeShapes Go.WideShapes Go.ChangeAt Go.RowKit

set_option maxRecDepth 100000 in
theorem lifted (os : Os) (started : os.Started) (H : Type) (enc : TypeId × Value → H) :
    ReturnsInHanded {} Try.checked os 4 .any (Rows.labelAreasSpec.pre6 enc Try.prog Try.f4 Rows.labelAreasRow.domain false) (Rows.labelAreasSpec.post enc Try.prog Try.f4 false true false false) := by
  refine returnsInHanded_of_change (C := Try.checked) ownKnob_none started (by kernel_rfl) Try.func4
    (ChangeSpec.witness6 (enc := enc) (C := Try.checked) false ⟨#[], #[.agg #[.int .i64 0, .int .i64 0, .int .i64 0, .int .i64 0, .int .i64 0, .int .i64 0, .int .i64 0, .int .i64 0, .int .i64 0, .int .i64 0, .int .i64 0], .int .u64 0], []⟩ 8 (by kernel_rfl) (by kernel_rfl) (by kernel_rfl) (by kernel_rfl)) ?_
  intro W base args ds gs before hval0 hW hcnd _
  have hval : ∀ (j : Nat) t v, Try.f4.params[j]? = some t → args[j]? = some v → Value.okWide Try.prog W .any base t v := hval0
  have hW' := hW
  obtain ⟨p, q, hA0, hV, rfl, hfz, hnd⟩ := hW
  have hA : DataW.TrodAll enc Try.prog W 0 (fun _ => true) true Try.f4.params.toList args.toList ds p := hA0
  rw [Try.params4] at hA hval
  have hAll := hA
  obtain ⟨v0, vs0, d0, ds0, pp0, qq0, hargs, rfl, rfl, h0, r0⟩ := trodAll_cons hA
  obtain ⟨v1, vs1, d1, ds1, pp1, qq1, rfl, rfl, rfl, h1, r1⟩ := trodAll_cons r0
  obtain ⟨rfl, rfl, rfl⟩ := trodAll_nil r1
  obtain rfl : args = #[v0, v1] := by cases args; simp_all
  obtain ⟨rfl, rfl⟩ := trodVars_none hV
  have hlt := DataW.TrodAll.lt hAll
  obtain ⟨cs0, rfl, _⟩ := okWide_row Try.underlying26 rfl (hval 0 26 v0 rfl rfl)
  obtain ⟨fuel0, hf0⟩ := h0
  obtain ⟨l0, hl0, hn0⟩ := rd_cfgL hf0
  obtain rfl : cs0 = l0.cfgv := by
    rw [← Array.toArray_toList (xs := cs0), show cs0.toList = _ from hl0]
  obtain ⟨x1, rfl, rfl, rfl, w1⟩ := open_int Try.underlying22 (hval 1 22 v1 rfl rfl) h1
  have bd1 := bounds_u64 w1
  clear hA0 hval0
  refine (labelAreas_walk l0 x1 W hn0 (by omega) (by omega)).mono fun e W' ⟨he, bel⟩ => ?_
  subst he
  exact ⟨_, rfl, _, _, _, [], _, [], hW', trodAll_mk1 (shut_bool Try.underlying4 _), below_trodAll prog_laidOut bel (by decide +kernel) hAll hlt, rfl, bel.frame _, fun h => by cases h⟩

theorem over : Rows.labelAreasRow.holds Try.pinned (OpenSpec.ofChange Rows.labelAreasSpec) :=
  OpenClaim.holds_of_wide 4 Try.f4 rfl rfl rfl rfl rfl rfl rfl ⟨rfl, rfl, rfl, rfl, rfl⟩ rfl rfl rfl rfl rfl (by kernel_rfl) Try.func4 (by kernel_rfl)
    (of_decide_eq_true (by kernel_rfl)) (by unfold Func.isWrapper; rw [if_neg (of_decide_eq_false (by kernel_rfl))]; exact ⟨rfl, rfl⟩)
    (fun os started H enc _ => lifted os started H enc)

theorem proved : Rows.LabelAreasSaid := over
#print axioms proved

end Go.Proofs.Ytjjknjkpkoeelaa.lawLabelAreas
