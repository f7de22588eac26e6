/- ElectionInterrupted: for every input the statement returns true and its arguments read afterwards as they did before. No condition. -/
import Derived.Test.YtgpfjinkmagelaaLift
import Derived.Test.YtgpfjinkmagelaaLawEInterrupted
import Derived.Test.YtgpfjinkmagelaaRead
import Derived.Test.YtgpfjinkmagelaaReadL
import Derived.Test.YtgpfjinkmagelaaReadE
set_option linter.unusedVariables false
namespace Go.Proofs.Ytgpfjinkmagelaa.lawElectionInterrupted
open Go Go.ChangeShapes Go.WideShapes Go.ChangeAt Go.RowKit

set_option maxRecDepth 100000 in
theorem lifted (os : Os) (started : os.Started) (H : Type) (enc : TypeId × Value → H) :
    ReturnsInHanded {} Try.checked os 6 .any (Rows.electionInterruptedSpec.pre6 enc Try.prog Try.f6 Rows.electionInterruptedRow.domain false) (Rows.electionInterruptedSpec.post enc Try.prog Try.f6 false true false false) := by
  refine returnsInHanded_of_change (C := Try.checked) ownKnob_none started (by kernel_rfl) Try.func6
    (ChangeSpec.witness6 (enc := enc) (C := Try.checked) false ⟨#[], #[.agg #[.int .u64 0, .int .i64 0, .int .u64 0, .int .u64 0, .int .i64 0, .int .i64 0, .int .i64 0, .int .i64 0, .int .i64 0, .int .i64 0, .int .i64 0, .int .i64 0, .int .i64 0, .int .i64 0, .int .i64 0, .slice none 0 0, .int .i64 0, .int .u64 0, .int .u64 0], .slice none 0 0, .slice none 0 0, .int .u64 0], []⟩ 8 (by kernel_rfl) (by kernel_rfl) (by kernel_rfl) (by kernel_rfl)) ?_
  intro W base args ds gs before hval0 hW hcnd _
  have hval : ∀ (j : Nat) t v, Try.f6.params[j]? = some t → args[j]? = some v → Value.okWide Try.prog W .any base t v := hval0
  have hW' := hW
  obtain ⟨p, q, hA0, hV, rfl, hfz, hnd⟩ := hW
  have hA : DataW.TrodAll enc Try.prog W 0 (fun _ => true) true Try.f6.params.toList args.toList ds p := hA0
  rw [Try.params6] at hA hval
  have hAll := hA
  obtain ⟨v0, vs0, d0, ds0, pp0, qq0, hargs, rfl, rfl, h0, r0⟩ := trodAll_cons hA
  obtain ⟨v1, vs1, d1, ds1, pp1, qq1, rfl, rfl, rfl, h1, r1⟩ := trodAll_cons r0
  obtain ⟨v2, vs2, d2, ds2, pp2, qq2, rfl, rfl, rfl, h2, r2⟩ := trodAll_cons r1
  obtain ⟨v3, vs3, d3, ds3, pp3, qq3, rfl, rfl, rfl, h3, r3⟩ := trodAll_cons r2
  obtain ⟨rfl, rfl, rfl⟩ := trodAll_nil r3
  obtain rfl : args = #[v0, v1, v2, v3] := by cases args; simp_all
  obtain ⟨rfl, rfl⟩ := trodVars_none hV
  have hlt := DataW.TrodAll.lt hAll
  obtain ⟨cs0, rfl, _⟩ := okWide_row Try.underlying32 rfl (hval 0 32 v0 rfl rfl)
  obtain ⟨fuel0, hf0⟩ := h0
  obtain ⟨l0, ad0, nd0, c0, hl0, s0, hn0⟩ := rd_label hf0
  obtain rfl : cs0 = l0.arrv ad0 nd0 c0 := by
    rw [← Array.toArray_toList (xs := cs0), show cs0.toList = _ from hl0]
  obtain ⟨a1, n1, c1, rfl⟩ := okWide_slice Try.underlying23 (hval 1 23 v1 rfl rfl)
  obtain ⟨fuel1, hf1⟩ := h1
  obtain ⟨a1, n1, c1, l1, hcs1, s1⟩ := rd_bools Try.underlying23 Try.underlying4 (by kernel_rfl) hf1
  simp only [Value.cells, List.cons.injEq, Value.slice.injEq, and_true] at hcs1
  obtain ⟨rfl, rfl, rfl⟩ := hcs1
  obtain ⟨a2, n2, c2, rfl⟩ := okWide_slice Try.underlying23 (hval 2 23 v2 rfl rfl)
  obtain ⟨fuel2, hf2⟩ := h2
  obtain ⟨a2, n2, c2, l2, hcs2, s2⟩ := rd_bools Try.underlying23 Try.underlying4 (by kernel_rfl) hf2
  simp only [Value.cells, List.cons.injEq, Value.slice.injEq, and_true] at hcs2
  obtain ⟨rfl, rfl, rfl⟩ := hcs2
  obtain ⟨x3, rfl, rfl, rfl, w3⟩ := open_int Try.underlying26 (hval 3 26 v3 rfl rfl) h3
  have bd3 := bounds_u64 w3
  clear hA0 hval0
  refine (electionInterrupted_walk l0 ad0 nd0 c0 a1 n1 c1 l1 a2 n2 c2 l2 x3 W s0 hn0 s1 s2 (by omega) (by omega)).mono fun e W' ⟨he, bel⟩ => ?_
  subst he
  exact ⟨_, rfl, _, _, _, [], _, [], hW', trodAll_mk1 (shut_bool Try.underlying4 _), below_trodAll prog_laidOut bel (by decide +kernel) hAll hlt, rfl, bel.frame _, fun h => by cases h⟩

theorem over : Rows.electionInterruptedRow.holds Try.pinned (OpenSpec.ofChange Rows.electionInterruptedSpec) :=
  OpenClaim.holds_of_wide 6 Try.f6 rfl rfl rfl rfl rfl rfl rfl ⟨rfl, rfl, rfl, rfl, rfl⟩ rfl rfl rfl rfl rfl (by kernel_rfl) Try.func6 (by kernel_rfl)
    (of_decide_eq_true (by kernel_rfl)) (by unfold Func.isWrapper; rw [if_neg (of_decide_eq_false (by kernel_rfl))]; exact ⟨rfl, rfl⟩)
    (fun os started H enc _ => lifted os started H enc)

theorem proved : Rows.ElectionInterruptedSaid := over
#print axioms proved

end Go.Proofs.Ytgpfjinkmagelaa.lawElectionInterrupted
