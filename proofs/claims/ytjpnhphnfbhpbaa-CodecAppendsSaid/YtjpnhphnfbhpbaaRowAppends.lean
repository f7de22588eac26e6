/- CodecAppends: for every input the statement returns true and its arguments read afterwards as they did before. No condition. -/
import Derived.Test.YtjpnhphnfbhpbaaLift
import Derived.Test.YtjpnhphnfbhpbaaLawAppends
import Derived.Test.YtjpnhphnfbhpbaaRead
import Derived.Test.YtjpnhphnfbhpbaaReadV
set_option linter.unusedVariables false
namespace Go.Proofs.Ytjpnhphnfbhpbaa.lawCodecAppends
open Go Go.ChangeShapes Go.WideShapes Go.ChangeAt Go.RowKit

set_option maxRecDepth 100000 in
theorem lifted (os : Os) (started : os.Started) (H : Type) (enc : TypeId × Value → H) :
    ReturnsInHanded {} Try.checked os 4 .any (Rows.codecAppendsSpec.pre6 enc Try.prog Try.f4 Rows.codecAppendsRow.domain false) (Rows.codecAppendsSpec.post enc Try.prog Try.f4 false true false false) := by
  refine returnsInHanded_of_change (C := Try.checked) ownKnob_none started (by kernel_rfl) Try.func4
    (ChangeSpec.witness6 (enc := enc) (C := Try.checked) false ⟨#[], #[.slice none 0 0, .agg #[.int .u64 0, .int .i64 0, .slice none 0 0, .int .u8 0, .int .u8 0, .int .u8 0, .int .u8 0, .int .u8 0, .int .u8 0, .int .u8 0, .int .u8 0]], []⟩ 8 (by kernel_rfl) (by kernel_rfl) (by kernel_rfl) (by kernel_rfl)) ?_
  intro W base args ds gs before hval0 hW hcnd _
  have hval : ∀ (j : Nat) t v, Try.f4.params[j]? = some t → args[j]? = some v → Value.okWide Try.prog W .any base t v := hval0
  have hW' := hW
  obtain ⟨p, q, hA0, hV, rfl, hfz, hnd⟩ := hW
  have hA : DataW.TrodAll enc Try.prog W 0 (fun _ => true) true Try.f4.params.toList args.toList ds p := hA0
  rw [Try.params4] at hA hval
  have hAll := hA
  obtain ⟨v0, vs0, d0, ds0, pp0, qq0, hargs, rfl, rfl, h0, r0⟩ := trodAll_cons hA
  obtain ⟨v1, vs1, d1, ds1, pp1, qq1, rfl, rfl, rfl, h1, r1⟩ := trodAll_cons r0
  obtain ⟨rfl, rfl, rfl⟩ := trodAll_nil r1
  obtain rfl : args = #[v0, v1] := by cases args; simp_all
  obtain ⟨rfl, rfl⟩ := trodVars_none hV
  have hlt := DataW.TrodAll.lt hAll
  obtain ⟨a0, n0, c0, rfl⟩ := okWide_slice Try.underlying25 (hval 0 25 v0 rfl rfl)
  obtain ⟨fuel0, hf0⟩ := h0
  obtain ⟨a0, n0, c0, l0, hcs0, s0⟩ := rd_bytes Try.underlying25 Try.underlying5 (by kernel_rfl) hf0
  simp only [Value.cells, List.cons.injEq, Value.slice.injEq, and_true] at hcs0
  obtain ⟨rfl, rfl, rfl⟩ := hcs0
  obtain ⟨cs1, rfl, _⟩ := okWide_row Try.underlying33 rfl (hval 1 33 v1 rfl rfl)
  obtain ⟨fuel1, hf1⟩ := h1
  obtain ⟨u1, k1, ax1, nx1, cx1, lx1, y10, y11, y12, y13, y14, y15, y16, y17, hl1, wu1, wk1, sx1⟩ := rd_value hf1
  obtain rfl : cs1 = #[.int .u64 u1, .int .i64 k1, .slice ax1 nx1 cx1, .int .u8 y10.toNat, .int .u8 y11.toNat, .int .u8 y12.toNat, .int .u8 y13.toNat, .int .u8 y14.toNat, .int .u8 y15.toNat, .int .u8 y16.toNat, .int .u8 y17.toNat] := by
    rw [← Array.toArray_toList (xs := cs1), show cs1.toList = _ from hl1]
    rfl
  have bu1 := bounds_u64 wu1
  have bk1 := bounds_i64 wk1
  clear hA0 hval0
  refine (appends_walk a0 n0 c0 l0 u1 k1 ax1 nx1 cx1 lx1 y10 y11 y12 y13 y14 y15 y16 y17 W s0 sx1 (by omega) (by omega) (by omega) (by omega)).mono fun e W' ⟨he, bel⟩ => ?_
  subst he
  exact ⟨_, rfl, _, _, _, [], _, [], hW', trodAll_mk1 (shut_bool Try.underlying4 _), below_trodAll prog_laidOut bel (by decide +kernel) hAll hlt, rfl, bel.frame _, fun h => by cases h⟩

theorem over : Rows.codecAppendsRow.holds Try.pinned (OpenSpec.ofChange Rows.codecAppendsSpec) :=
  OpenClaim.holds_of_wide 4 Try.f4 rfl rfl rfl rfl rfl rfl rfl ⟨rfl, rfl, rfl, rfl, rfl⟩ rfl rfl rfl rfl rfl (by kernel_rfl) Try.func4 (by kernel_rfl)
    (of_decide_eq_true (by kernel_rfl)) (by unfold Func.isWrapper; rw [if_neg (of_decide_eq_false (by kernel_rfl))]; exact ⟨rfl, rfl⟩)
    (fun os started H enc _ => lifted os started H enc)

theorem proved : Rows.CodecAppendsSaid := over
#print axioms proved

end Go.Proofs.Ytjpnhphnfbhpbaa.lawCodecAppends
