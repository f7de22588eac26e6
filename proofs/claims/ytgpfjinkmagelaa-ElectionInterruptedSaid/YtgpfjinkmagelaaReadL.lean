/- The readings of a configuration and of a label. (Printed by readl.py.) -/
import Derived.Test.YtgpfjinkmagelaaRead
import Derived.Test.YtgpfjinkmagelaaLblV
set_option linter.unusedVariables false
set_option linter.unusedSimpArgs false
namespace Go.Proofs.Ytgpfjinkmagelaa
open Go Go.ChangeShapes Go.WideShapes Go.ChangeAt Go.RowKit

/-- The numbers are of their kinds. -/
structure Lb.num (l : Lb) : Prop where
  arr0 : 0 ≤ l.arr
  arr1 : l.arr < 18446744073709551616
  dk0 : -9223372036854775808 ≤ l.dk
  dk1 : l.dk ≤ 9223372036854775807
  gen0 : 0 ≤ l.gen
  gen1 : l.gen < 18446744073709551616
  prev0 : 0 ≤ l.prev
  prev1 : l.prev < 18446744073709551616
  cd0 : -9223372036854775808 ≤ l.cd
  cd1 : l.cd ≤ 9223372036854775807
  ca0 : -9223372036854775808 ≤ l.ca
  ca1 : l.ca ≤ 9223372036854775807
  cl0 : -9223372036854775808 ≤ l.cl
  cl1 : l.cl ≤ 9223372036854775807
  blob0 : -9223372036854775808 ≤ l.blob
  blob1 : l.blob ≤ 9223372036854775807
  sum0 : 0 ≤ l.sum
  sum1 : l.sum < 18446744073709551616
  root0 : 0 ≤ l.root
  root1 : l.root < 18446744073709551616
theorem Lb.num.ok {l : Lb} (h : l.num) (hs : l.dead.length ≤ 1000000) : l.ok :=
  ⟨h.arr0, h.arr1, h.dk0, h.dk1, h.gen0, h.gen1, h.prev0, h.prev1, h.cd0, h.cd1, h.ca0, h.ca1, h.cl0, h.cl1, h.blob0, h.blob1, h.sum0, h.sum1, h.root0, h.root1, hs⟩

section
variable {H : Type} {enc : TypeId × Value → H} {w : World} {fuel : Nat} {cs : List Value} {x : DataW H × List MemPlace}

theorem some_of_getL {α : Type} {xs : List α} {i n : Nat} (h : xs.length = n) (hi : i < n) : ∃ y, xs[i]? = some y := ⟨xs[i], by simp⟩

theorem flatten_bool {L : List (List Value)} (h : ∀ cs ∈ L, ∃ b : Bool, cs = [.bool b]) : ∃ l : List Bool, L.flatten = bb l := by
  induction L with
  | nil => exact ⟨[], rfl⟩
  | cons c L ih =>
    obtain ⟨l, h1⟩ := ih (fun cs hcs => h cs (by simp [hcs]))
    obtain ⟨b, rfl⟩ := h c (by simp)
    exact ⟨b :: l, by simp [h1, bb]⟩

/-- []bool. -/
theorem rd_bools {P : Program} {t e : TypeId} (ht : P.underlying t = some (.slice e)) (he : P.underlying e = some .bool) (hc : P.cellsOf e = 1) (h : DataW.trod enc P w 0 (fun _ => true) true fuel t cs = some x) :
    ∃ (a : Option Addr) (n c : Nat) (l : List Bool), cs = [.slice a n c] ∧ Sl w 1 a n c (bb l) := by
  obtain ⟨a, n, c, L, h1, h2, h3, h4⟩ := rd_slice (Q := fun cs => ∃ b : Bool, cs = [.bool b]) ht hc (fun fuel cs x h => rd_bool he h) (fun cs hcs => by
    obtain ⟨b, rfl⟩ := hcs
    exact ⟨rfl, by simp [Value.oneCell']⟩) h
  obtain ⟨l, hl⟩ := flatten_bool h4
  rw [hl] at h3
  exact ⟨a, n, c, l, h1, h3⟩

theorem list5_geo {l : List Value} (h : l.length = 5) : ∃ c0 c1 c2 c3 c4, l = [c0, c1, c2, c3, c4] := by
  match l, h with
  | [c0, c1, c2, c3, c4], _ => exact ⟨c0, c1, c2, c3, c4, rfl⟩

set_option maxRecDepth 100000 in
theorem rd_geo (h : DataW.trod enc Try.prog w 0 (fun _ => true) true fuel 28 cs = some x) :
    ∃ a b c d e, cs = [.int .i64 a, .int .i64 b, .int .i64 c, .int .i64 d, .int .i64 e] ∧ (Lit.int .i64 a).wf = true ∧ (Lit.int .i64 b).wf = true ∧ (Lit.int .i64 c).wf = true ∧ (Lit.int .i64 d).wf = true ∧ (Lit.int .i64 e).wf = true := by
  obtain ⟨xs, n, _, _, hl, hlen, hf⟩ := DataW.trod_struct Try.underlying28 h
  rw [show Try.prog.cellsOf 28 = 5 from by kernel_rfl] at hl
  obtain ⟨c0, c1, c2, c3, c4, rfl⟩ := list5_geo hl
  obtain ⟨z0, hz0⟩ := some_of_getL hlen (i := 0) (by simp)
  have h0 : DataW.trod enc Try.prog w 0 (fun _ => true) true n 3 (([c0, c1, c2, c3, c4].drop 0).take (Try.prog.cellsOf 3)) = some z0 := (hf 0 _ rfl).trans hz0
  rw [show Try.prog.cellsOf 3 = 1 from by kernel_rfl] at h0
  obtain ⟨v0, e0, w0⟩ := rd_int Try.underlying3 h0
  simp at e0
  obtain ⟨z1, hz1⟩ := some_of_getL hlen (i := 1) (by simp)
  have h1 : DataW.trod enc Try.prog w 0 (fun _ => true) true n 3 (([c0, c1, c2, c3, c4].drop 1).take (Try.prog.cellsOf 3)) = some z1 := (hf 1 _ rfl).trans hz1
  rw [show Try.prog.cellsOf 3 = 1 from by kernel_rfl] at h1
  obtain ⟨v1, e1, w1⟩ := rd_int Try.underlying3 h1
  simp at e1
  obtain ⟨z2, hz2⟩ := some_of_getL hlen (i := 2) (by simp)
  have h2 : DataW.trod enc Try.prog w 0 (fun _ => true) true n 3 (([c0, c1, c2, c3, c4].drop 2).take (Try.prog.cellsOf 3)) = some z2 := (hf 2 _ rfl).trans hz2
  rw [show Try.prog.cellsOf 3 = 1 from by kernel_rfl] at h2
  obtain ⟨v2, e2, w2⟩ := rd_int Try.underlying3 h2
  simp at e2
  obtain ⟨z3, hz3⟩ := some_of_getL hlen (i := 3) (by simp)
  have h3 : DataW.trod enc Try.prog w 0 (fun _ => true) true n 3 (([c0, c1, c2, c3, c4].drop 3).take (Try.prog.cellsOf 3)) = some z3 := (hf 3 _ rfl).trans hz3
  rw [show Try.prog.cellsOf 3 = 1 from by kernel_rfl] at h3
  obtain ⟨v3, e3, w3⟩ := rd_int Try.underlying3 h3
  simp at e3
  obtain ⟨z4, hz4⟩ := some_of_getL hlen (i := 4) (by simp)
  have h4 : DataW.trod enc Try.prog w 0 (fun _ => true) true n 3 (([c0, c1, c2, c3, c4].drop 4).take (Try.prog.cellsOf 3)) = some z4 := (hf 4 _ rfl).trans hz4
  rw [show Try.prog.cellsOf 3 = 1 from by kernel_rfl] at h4
  obtain ⟨v4, e4, w4⟩ := rd_int Try.underlying3 h4
  simp at e4
  exact ⟨v0, v1, v2, v3, v4, by simp [e0, e1, e2, e3, e4], w0, w1, w2, w3, w4⟩

theorem list11_cfg {l : List Value} (h : l.length = 11) : ∃ c0 c1 c2 c3 c4 c5 c6 c7 c8 c9 c10, l = [c0, c1, c2, c3, c4, c5, c6, c7, c8, c9, c10] := by
  match l, h with
  | [c0, c1, c2, c3, c4, c5, c6, c7, c8, c9, c10], _ => exact ⟨c0, c1, c2, c3, c4, c5, c6, c7, c8, c9, c10, rfl⟩

set_option maxRecDepth 100000 in
theorem rd_cfg (h : DataW.trod enc Try.prog w 0 (fun _ => true) true fuel 30 cs = some x) :
    ∃ p0 p1 p2 p3 p4 p5 p6 p7 p8 p9 p10, cs = [.int .i64 p0, .int .i64 p1, .int .i64 p2, .int .i64 p3, .int .i64 p4, .int .i64 p5, .int .i64 p6, .int .i64 p7, .int .i64 p8, .int .i64 p9, .int .i64 p10] ∧ (Lit.int .i64 p0).wf = true ∧ (Lit.int .i64 p1).wf = true ∧ (Lit.int .i64 p2).wf = true ∧ (Lit.int .i64 p3).wf = true ∧ (Lit.int .i64 p4).wf = true ∧ (Lit.int .i64 p5).wf = true ∧ (Lit.int .i64 p6).wf = true ∧ (Lit.int .i64 p7).wf = true ∧ (Lit.int .i64 p8).wf = true ∧ (Lit.int .i64 p9).wf = true ∧ (Lit.int .i64 p10).wf = true := by
  obtain ⟨xs, n, _, _, hl, hlen, hf⟩ := DataW.trod_struct Try.underlying30 h
  rw [show Try.prog.cellsOf 30 = 11 from by kernel_rfl] at hl
  obtain ⟨c0, c1, c2, c3, c4, c5, c6, c7, c8, c9, c10, rfl⟩ := list11_cfg hl
  obtain ⟨z0, hz0⟩ := some_of_getL hlen (i := 0) (by simp)
  have h0 : DataW.trod enc Try.prog w 0 (fun _ => true) true n 3 (([c0, c1, c2, c3, c4, c5, c6, c7, c8, c9, c10].drop 0).take (Try.prog.cellsOf 3)) = some z0 := (hf 0 _ rfl).trans hz0
  rw [show Try.prog.cellsOf 3 = 1 from by kernel_rfl] at h0
  obtain ⟨v0, e0, w0⟩ := rd_int Try.underlying3 h0
  simp at e0
  obtain ⟨z1, hz1⟩ := some_of_getL hlen (i := 1) (by simp)
  have h1 : DataW.trod enc Try.prog w 0 (fun _ => true) true n 3 (([c0, c1, c2, c3, c4, c5, c6, c7, c8, c9, c10].drop 1).take (Try.prog.cellsOf 3)) = some z1 := (hf 1 _ rfl).trans hz1
  rw [show Try.prog.cellsOf 3 = 1 from by kernel_rfl] at h1
  obtain ⟨v1, e1, w1⟩ := rd_int Try.underlying3 h1
  simp at e1
  obtain ⟨z2, hz2⟩ := some_of_getL hlen (i := 2) (by simp)
  have h2 : DataW.trod enc Try.prog w 0 (fun _ => true) true n 3 (([c0, c1, c2, c3, c4, c5, c6, c7, c8, c9, c10].drop 2).take (Try.prog.cellsOf 3)) = some z2 := (hf 2 _ rfl).trans hz2
  rw [show Try.prog.cellsOf 3 = 1 from by kernel_rfl] at h2
  obtain ⟨v2, e2, w2⟩ := rd_int Try.underlying3 h2
  simp at e2
  obtain ⟨z3, hz3⟩ := some_of_getL hlen (i := 3) (by simp)
  have h3 : DataW.trod enc Try.prog w 0 (fun _ => true) true n 3 (([c0, c1, c2, c3, c4, c5, c6, c7, c8, c9, c10].drop 3).take (Try.prog.cellsOf 3)) = some z3 := (hf 3 _ rfl).trans hz3
  rw [show Try.prog.cellsOf 3 = 1 from by kernel_rfl] at h3
  obtain ⟨v3, e3, w3⟩ := rd_int Try.underlying3 h3
  simp at e3
  obtain ⟨z4, hz4⟩ := some_of_getL hlen (i := 4) (by simp)
  have h4 : DataW.trod enc Try.prog w 0 (fun _ => true) true n 28 (([c0, c1, c2, c3, c4, c5, c6, c7, c8, c9, c10].drop 4).take (Try.prog.cellsOf 28)) = some z4 := (hf 4 _ rfl).trans hz4
  rw [show Try.prog.cellsOf 28 = 5 from by kernel_rfl] at h4
  obtain ⟨q0, q1, q2, q3, q4, e4, wq0, wq1, wq2, wq3, wq4⟩ := rd_geo h4
  simp at e4
  obtain ⟨z5, hz5⟩ := some_of_getL hlen (i := 5) (by simp)
  have h5 : DataW.trod enc Try.prog w 0 (fun _ => true) true n 3 (([c0, c1, c2, c3, c4, c5, c6, c7, c8, c9, c10].drop 9).take (Try.prog.cellsOf 3)) = some z5 := (hf 5 _ rfl).trans hz5
  rw [show Try.prog.cellsOf 3 = 1 from by kernel_rfl] at h5
  obtain ⟨v5, e5, w5⟩ := rd_int Try.underlying3 h5
  simp at e5
  obtain ⟨z6, hz6⟩ := some_of_getL hlen (i := 6) (by simp)
  have h6 : DataW.trod enc Try.prog w 0 (fun _ => true) true n 3 (([c0, c1, c2, c3, c4, c5, c6, c7, c8, c9, c10].drop 10).take (Try.prog.cellsOf 3)) = some z6 := (hf 6 _ rfl).trans hz6
  rw [show Try.prog.cellsOf 3 = 1 from by kernel_rfl] at h6
  obtain ⟨v6, e6, w6⟩ := rd_int Try.underlying3 h6
  simp at e6
  obtain ⟨g0, g1, g2, g3, g4⟩ := e4
  exact ⟨v0, v1, v2, v3, q0, q1, q2, q3, q4, v5, v6, by simp [e0, e1, e2, e3, g0, g1, g2, g3, g4, e5, e6], w0, w1, w2, w3, wq0, wq1, wq2, wq3, wq4, w5, w6⟩

theorem list19_label {l : List Value} (h : l.length = 19) : ∃ c0 c1 c2 c3 c4 c5 c6 c7 c8 c9 c10 c11 c12 c13 c14 c15 c16 c17 c18, l = [c0, c1, c2, c3, c4, c5, c6, c7, c8, c9, c10, c11, c12, c13, c14, c15, c16, c17, c18] := by
  match l, h with
  | [c0, c1, c2, c3, c4, c5, c6, c7, c8, c9, c10, c11, c12, c13, c14, c15, c16, c17, c18], _ => exact ⟨c0, c1, c2, c3, c4, c5, c6, c7, c8, c9, c10, c11, c12, c13, c14, c15, c16, c17, c18, rfl⟩

set_option maxRecDepth 100000 in
theorem rd_label (h : DataW.trod enc Try.prog w 0 (fun _ => true) true fuel 32 cs = some x) :
    ∃ (l : Lb) (ad : Option Addr) (nd c : Nat), cs = (l.arrv ad nd c).toList ∧ Sl w 1 ad nd c (bb l.dead) ∧ l.num := by
  obtain ⟨xs, n, _, _, hl, hlen, hf⟩ := DataW.trod_struct Try.underlying32 h
  rw [show Try.prog.cellsOf 32 = 19 from by kernel_rfl] at hl
  obtain ⟨c0, c1, c2, c3, c4, c5, c6, c7, c8, c9, c10, c11, c12, c13, c14, c15, c16, c17, c18, rfl⟩ := list19_label hl
  obtain ⟨z0, hz0⟩ := some_of_getL hlen (i := 0) (by simp)
  have h0 : DataW.trod enc Try.prog w 0 (fun _ => true) true n 26 (([c0, c1, c2, c3, c4, c5, c6, c7, c8, c9, c10, c11, c12, c13, c14, c15, c16, c17, c18].drop 0).take (Try.prog.cellsOf 26)) = some z0 := (hf 0 _ rfl).trans hz0
  rw [show Try.prog.cellsOf 26 = 1 from by kernel_rfl] at h0
  obtain ⟨v0, e0, w0⟩ := rd_int Try.underlying26 h0
  simp at e0
  obtain ⟨z1, hz1⟩ := some_of_getL hlen (i := 1) (by simp)
  have h1 : DataW.trod enc Try.prog w 0 (fun _ => true) true n 3 (([c0, c1, c2, c3, c4, c5, c6, c7, c8, c9, c10, c11, c12, c13, c14, c15, c16, c17, c18].drop 1).take (Try.prog.cellsOf 3)) = some z1 := (hf 1 _ rfl).trans hz1
  rw [show Try.prog.cellsOf 3 = 1 from by kernel_rfl] at h1
  obtain ⟨v1, e1, w1⟩ := rd_int Try.underlying3 h1
  simp at e1
  obtain ⟨z2, hz2⟩ := some_of_getL hlen (i := 2) (by simp)
  have h2 : DataW.trod enc Try.prog w 0 (fun _ => true) true n 26 (([c0, c1, c2, c3, c4, c5, c6, c7, c8, c9, c10, c11, c12, c13, c14, c15, c16, c17, c18].drop 2).take (Try.prog.cellsOf 26)) = some z2 := (hf 2 _ rfl).trans hz2
  rw [show Try.prog.cellsOf 26 = 1 from by kernel_rfl] at h2
  obtain ⟨v2, e2, w2⟩ := rd_int Try.underlying26 h2
  simp at e2
  obtain ⟨z3, hz3⟩ := some_of_getL hlen (i := 3) (by simp)
  have h3 : DataW.trod enc Try.prog w 0 (fun _ => true) true n 26 (([c0, c1, c2, c3, c4, c5, c6, c7, c8, c9, c10, c11, c12, c13, c14, c15, c16, c17, c18].drop 3).take (Try.prog.cellsOf 26)) = some z3 := (hf 3 _ rfl).trans hz3
  rw [show Try.prog.cellsOf 26 = 1 from by kernel_rfl] at h3
  obtain ⟨v3, e3, w3⟩ := rd_int Try.underlying26 h3
  simp at e3
  obtain ⟨z4, hz4⟩ := some_of_getL hlen (i := 4) (by simp)
  have h4 : DataW.trod enc Try.prog w 0 (fun _ => true) true n 30 (([c0, c1, c2, c3, c4, c5, c6, c7, c8, c9, c10, c11, c12, c13, c14, c15, c16, c17, c18].drop 4).take (Try.prog.cellsOf 30)) = some z4 := (hf 4 _ rfl).trans hz4
  rw [show Try.prog.cellsOf 30 = 11 from by kernel_rfl] at h4
  obtain ⟨p0, p1, p2, p3, p4, p5, p6, p7, p8, p9, p10, e4, wp0, wp1, wp2, wp3, wp4, wp5, wp6, wp7, wp8, wp9, wp10⟩ := rd_cfg h4
  simp at e4
  obtain ⟨z5, hz5⟩ := some_of_getL hlen (i := 5) (by simp)
  have h5 : DataW.trod enc Try.prog w 0 (fun _ => true) true n 23 (([c0, c1, c2, c3, c4, c5, c6, c7, c8, c9, c10, c11, c12, c13, c14, c15, c16, c17, c18].drop 15).take (Try.prog.cellsOf 23)) = some z5 := (hf 5 _ rfl).trans hz5
  rw [show Try.prog.cellsOf 23 = 1 from by kernel_rfl] at h5
  obtain ⟨ad, nd, c, d, e5, s5⟩ := rd_bools Try.underlying23 Try.underlying4 (by kernel_rfl) h5
  simp at e5
  obtain ⟨z6, hz6⟩ := some_of_getL hlen (i := 6) (by simp)
  have h6 : DataW.trod enc Try.prog w 0 (fun _ => true) true n 3 (([c0, c1, c2, c3, c4, c5, c6, c7, c8, c9, c10, c11, c12, c13, c14, c15, c16, c17, c18].drop 16).take (Try.prog.cellsOf 3)) = some z6 := (hf 6 _ rfl).trans hz6
  rw [show Try.prog.cellsOf 3 = 1 from by kernel_rfl] at h6
  obtain ⟨v6, e6, w6⟩ := rd_int Try.underlying3 h6
  simp at e6
  obtain ⟨z7, hz7⟩ := some_of_getL hlen (i := 7) (by simp)
  have h7 : DataW.trod enc Try.prog w 0 (fun _ => true) true n 26 (([c0, c1, c2, c3, c4, c5, c6, c7, c8, c9, c10, c11, c12, c13, c14, c15, c16, c17, c18].drop 17).take (Try.prog.cellsOf 26)) = some z7 := (hf 7 _ rfl).trans hz7
  rw [show Try.prog.cellsOf 26 = 1 from by kernel_rfl] at h7
  obtain ⟨v7, e7, w7⟩ := rd_int Try.underlying26 h7
  simp at e7
  obtain ⟨z8, hz8⟩ := some_of_getL hlen (i := 8) (by simp)
  have h8 : DataW.trod enc Try.prog w 0 (fun _ => true) true n 26 (([c0, c1, c2, c3, c4, c5, c6, c7, c8, c9, c10, c11, c12, c13, c14, c15, c16, c17, c18].drop 18).take (Try.prog.cellsOf 26)) = some z8 := (hf 8 _ rfl).trans hz8
  rw [show Try.prog.cellsOf 26 = 1 from by kernel_rfl] at h8
  obtain ⟨v8, e8, w8⟩ := rd_int Try.underlying26 h8
  simp at e8
  obtain ⟨f0, f1, f2, f3, f4, f5, f6, f7, f8, f9, f10⟩ := e4
  have u0 := bounds_u64 w0
  have u2 := bounds_u64 w2
  have u3 := bounds_u64 w3
  have u7 := bounds_u64 w7
  have u8 := bounds_u64 w8
  have i1 := bounds_i64 w1
  have i6 := bounds_i64 w6
  have j0 := bounds_i64 wp0
  have j9 := bounds_i64 wp9
  have j10 := bounds_i64 wp10
  refine ⟨⟨v0, v1, v2, v3, p0, p1, p2, p3, p4, p5, p6, p7, p8, p9, p10, d, v6, v7, v8⟩, ad, nd, c, ?_, s5, ?_⟩
  · simp [Lb.arrv, e0, e1, e2, e3, f0, f1, f2, f3, f4, f5, f6, f7, f8, f9, f10, e5, e6, e7, e8]
  · constructor <;> (simp only; omega)

end

end Go.Proofs.Ytgpfjinkmagelaa
