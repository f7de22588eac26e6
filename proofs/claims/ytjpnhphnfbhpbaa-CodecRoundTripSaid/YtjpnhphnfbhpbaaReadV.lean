/- The readings of the codec law's struct, and of a slice of it. -/
import Derived.Test.YtjpnhphnfbhpbaaRead
import Derived.Test.YtjpnhphnfbhpbaaLift
set_option linter.unusedVariables false
namespace Go.Proofs.Ytjpnhphnfbhpbaa
open Go Go.ChangeShapes Go.WideShapes Go.ChangeAt Go.RowKit

section
variable {H : Type} {enc : TypeId × Value → H} {w : World} {fuel : Nat} {cs : List Value} {x : DataW H × List MemPlace}

theorem bytes_of_cells : ∀ (cs : List Value), (∀ i, i < cs.length → ∃ b : UInt8, cs[i]? = some (.int .u8 (b.toNat : Int))) → ∃ l : List UInt8, cs = bv l ∧ l.length = cs.length
  | [], _ => ⟨[], rfl, rfl⟩
  | c :: cs, h => by
    obtain ⟨b, hb⟩ := h 0 (by simp)
    obtain ⟨l, h1, h2⟩ := bytes_of_cells cs (fun i hi => by
      obtain ⟨b', hb'⟩ := h (i + 1) (by simp; omega)
      exact ⟨b', by simpa using hb'⟩)
    simp at hb
    exact ⟨b :: l, by rw [hb, h1]; rfl, by simp [h2]⟩

/-- [n]byte. -/
theorem rd_array {P : Program} {t e : TypeId} {n : Nat} (ht : P.underlying t = some (.array n e)) (he : P.underlying e = some (.int .u8)) (hc : P.cellsOf t = n) (hce : P.cellsOf e = 1) (h : DataW.trod enc P w 0 (fun _ => true) true fuel t cs = some x) :
    ∃ l : List UInt8, cs = bv l ∧ l.length = n := by
  obtain ⟨xs, m, rfl, _, hl, hxs, hel⟩ := DataW.trod_array ht h
  rw [hc] at hl
  obtain ⟨l, h1, h2⟩ := bytes_of_cells cs (fun i hi => by
    have h0 := hel i (by omega)
    rw [hce] at h0
    obtain ⟨y, hy⟩ : ∃ y, xs[i]? = some y := ⟨xs[i], by simp⟩
    rw [hy] at h0
    obtain ⟨k, hk, wk⟩ := rd_int he h0
    obtain ⟨b, rfl⟩ := byte_of wk
    refine ⟨b, ?_⟩
    have := congrArg (fun l => l[0]?) hk
    simpa using this)
  exact ⟨l, h1, by omega⟩

theorem list8u {l : List UInt8} (h : l.length = 8) : ∃ x0 x1 x2 x3 x4 x5 x6 x7, l = [x0, x1, x2, x3, x4, x5, x6, x7] := by
  match l, h with
  | [x0, x1, x2, x3, x4, x5, x6, x7], _ => exact ⟨x0, x1, x2, x3, x4, x5, x6, x7, rfl⟩

theorem some_of_get {α : Type} {xs : List α} {i n : Nat} (h : xs.length = n) (hi : i < n) : ∃ y, xs[i]? = some y := ⟨xs[i], by simp⟩

theorem list4c {l : List Value} (h : l.length = 11) : ∃ c0 c1 c2 r, l = c0 :: c1 :: c2 :: r ∧ r.length = 8 := by
  match l, h with
  | c0 :: c1 :: c2 :: r, h => exact ⟨c0, c1, c2, r, rfl, by simpa using h⟩

set_option maxRecDepth 100000 in
theorem rd_value (h : DataW.trod enc Try.prog w 0 (fun _ => true) true fuel 33 cs = some x) :
    ∃ u k ax nx cx lx y0 y1 y2 y3 y4 y5 y6 y7, cs = [.int .u64 u, .int .i64 k, .slice ax nx cx] ++ bv [y0, y1, y2, y3, y4, y5, y6, y7] ∧ (Lit.int .u64 u).wf = true ∧ (Lit.int .i64 k).wf = true ∧ Sl w 1 ax nx cx (bv lx) := by
  obtain ⟨xs, n, _, _, hl, hlen, hf⟩ := DataW.trod_struct Try.underlying33 h
  rw [show Try.prog.cellsOf 33 = 11 from by kernel_rfl] at hl
  obtain ⟨c0, c1, c2, r, rfl, hr⟩ := list4c hl
  obtain ⟨z0, hz0⟩ := some_of_get hlen (i := 0) (by simp)
  obtain ⟨z1, hz1⟩ := some_of_get hlen (i := 1) (by simp)
  obtain ⟨z2, hz2⟩ := some_of_get hlen (i := 2) (by simp)
  obtain ⟨z3, hz3⟩ := some_of_get hlen (i := 3) (by simp)
  have h0 : DataW.trod enc Try.prog w 0 (fun _ => true) true n 22 (((c0 :: c1 :: c2 :: r).drop 0).take (Try.prog.cellsOf 22)) = some z0 := (hf 0 _ rfl).trans hz0
  have h1 : DataW.trod enc Try.prog w 0 (fun _ => true) true n 3 (((c0 :: c1 :: c2 :: r).drop 1).take (Try.prog.cellsOf 3)) = some z1 := (hf 1 _ rfl).trans hz1
  have h2 : DataW.trod enc Try.prog w 0 (fun _ => true) true n 25 (((c0 :: c1 :: c2 :: r).drop 2).take (Try.prog.cellsOf 25)) = some z2 := (hf 2 _ rfl).trans hz2
  have h3 : DataW.trod enc Try.prog w 0 (fun _ => true) true n 31 (((c0 :: c1 :: c2 :: r).drop 3).take (Try.prog.cellsOf 31)) = some z3 := (hf 3 _ rfl).trans hz3
  rw [show Try.prog.cellsOf 22 = 1 from by kernel_rfl] at h0
  rw [show Try.prog.cellsOf 3 = 1 from by kernel_rfl] at h1
  rw [show Try.prog.cellsOf 25 = 1 from by kernel_rfl] at h2
  rw [show Try.prog.cellsOf 31 = 8 from by kernel_rfl] at h3
  obtain ⟨u, e0, w0⟩ := rd_int Try.underlying22 h0
  obtain ⟨k, e1, w1⟩ := rd_int Try.underlying3 h1
  obtain ⟨ax, nx, cx, lx, e2, s2⟩ := rd_bytes Try.underlying25 Try.underlying5 (by kernel_rfl) h2
  obtain ⟨l8, e3, n3⟩ := rd_array Try.underlying31 Try.underlying5 (by kernel_rfl) (by kernel_rfl) h3
  obtain ⟨y0, y1, y2, y3, y4, y5, y6, y7, rfl⟩ := list8u n3
  simp at e0 e1 e2
  rw [show ((c0 :: c1 :: c2 :: r).drop 3) = r from rfl, List.take_of_length_le (by omega)] at e3
  exact ⟨u, k, ax, nx, cx, lx, y0, y1, y2, y3, y4, y5, y6, y7, by rw [e0, e1, e2, e3]; rfl, w0, w1, s2⟩

end

end Go.Proofs.Ytjpnhphnfbhpbaa
