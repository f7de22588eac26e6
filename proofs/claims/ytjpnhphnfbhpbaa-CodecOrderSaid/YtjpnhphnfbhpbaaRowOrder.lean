/- CodecOrder: for every input the statement returns true and its arguments read afterwards as they did before. No condition. -/
import Derived.Test.YtjpnhphnfbhpbaaLift
import Derived.Test.YtjpnhphnfbhpbaaLawOrder
import Derived.Test.YtjpnhphnfbhpbaaRead
set_option linter.unusedVariables false
namespace Go.Proofs.Ytjpnhphnfbhpbaa.lawCodecOrder
open Go Go.ChangeShapes Go.WideShapes Go.ChangeAt Go.RowKit
open Go.ChangeMaps (open_string shut_string)

set_option maxRecDepth 100000 in
theorem lifted (os : Os) (started : os.Started) (H : Type) (enc : TypeId × Value → H) :
    ReturnsInHanded {} Try.checked os 3 .any (Rows.codecOrderSpec.pre6 enc Try.prog Try.f3 Rows.codecOrderRow.domain false) (Rows.codecOrderSpec.post enc Try.prog Try.f3 false true false false) := by
  refine returnsInHanded_of_change (C := Try.checked) ownKnob_none started (by kernel_rfl) Try.func3
    (ChangeSpec.witness6 (enc := enc) (C := Try.checked) false ⟨#[], #[.int .u64 0, .int .u64 0, .agg #[.int .i64 0, .int .i64 0]], []⟩ 8 (by kernel_rfl) (by kernel_rfl) (by kernel_rfl) (by kernel_rfl)) ?_
  intro W base args ds gs before hval0 hW hcnd _
  have hval : ∀ (j : Nat) t v, Try.f3.params[j]? = some t → args[j]? = some v → Value.okWide Try.prog W .any base t v := hval0
  have hW' := hW
  obtain ⟨p, q, hA0, hV, rfl, hfz, hnd⟩ := hW
  have hA : DataW.TrodAll enc Try.prog W 0 (fun _ => true) true Try.f3.params.toList args.toList ds p := hA0
  rw [Try.params3] at hA hval
  have hAll := hA
  obtain ⟨v0, vs0, d0, ds0, p0, q0, hargs, rfl, rfl, h0, r0⟩ := trodAll_cons hA
  obtain ⟨v1, vs1, d1, ds1, p1, q1, rfl, rfl, rfl, h1, r1⟩ := trodAll_cons r0
  obtain ⟨v2, vs2, d2, ds2, p2, q2, rfl, rfl, rfl, h2, r2⟩ := trodAll_cons r1
  obtain ⟨rfl, rfl, rfl⟩ := trodAll_nil r2
  obtain rfl : args = #[v0, v1, v2] := by cases args; simp_all
  obtain ⟨rfl, rfl⟩ := trodVars_none hV
  obtain ⟨x0, rfl, rfl, rfl, w0⟩ := open_int Try.underlying22 (hval 0 22 v0 rfl rfl) h0
  obtain ⟨x1, rfl, rfl, rfl, w1⟩ := open_int Try.underlying22 (hval 1 22 v1 rfl rfl) h1
  obtain ⟨cs2, rfl, hcs2⟩ := okWide_row Try.underlying23 rfl (hval 2 23 v2 rfl rfl)
  obtain ⟨fuel2, hf2⟩ := h2
  obtain ⟨l0, l1, hl, wl0, wl1⟩ := rd_int2 Try.underlying23 Try.underlying3 (by kernel_rfl) (by kernel_rfl) hf2
  obtain rfl : cs2 = #[.int .i64 l0, .int .i64 l1] := by
    have : cs2.toList = [.int .i64 l0, .int .i64 l1] := hl
    rw [← Array.toArray_toList (xs := cs2), this]
  have bd0 := bounds_u64 w0
  have bd1 := bounds_u64 w1
  have bl0 := bounds_i64 wl0
  have bl1 := bounds_i64 wl1
  have hlt := DataW.TrodAll.lt hAll
  clear hA0 hval0
  refine (order_walk x0 x1 l0 l1 W (by omega) (by omega) (by omega) (by omega) (by omega) (by omega) (by omega) (by omega)).mono fun e W' ⟨he, bel⟩ => ?_
  subst he
  exact ⟨_, rfl, _, _, _, [], _, [], hW', trodAll_mk1 (shut_bool Try.underlying4 _), below_trodAll prog_laidOut bel (by decide +kernel) hAll hlt, rfl, bel.frame _, fun h => by cases h⟩

theorem over : Rows.codecOrderRow.holds Try.pinned (OpenSpec.ofChange Rows.codecOrderSpec) :=
  OpenClaim.holds_of_wide 3 Try.f3 rfl rfl rfl rfl rfl rfl rfl ⟨rfl, rfl, rfl, rfl, rfl⟩ rfl rfl rfl rfl rfl (by kernel_rfl) Try.func3 (by kernel_rfl)
    (of_decide_eq_true (by kernel_rfl)) (by unfold Func.isWrapper; rw [if_neg (of_decide_eq_false (by kernel_rfl))]; exact ⟨rfl, rfl⟩)
    (fun os started H enc _ => lifted os started H enc)

theorem proved : Rows.CodecOrderSaid := over
#print axioms proved

end Go.Proofs.Ytjpnhphnfbhpbaa.lawCodecOrder
