/- The reading of a slice of the codec law's structs. -/
import Derived.Test.YtjpnhphnfbhpbaaReadV
import Derived.Test.YtjpnhphnfbhpbaaVals
set_option linter.unusedVariables false
namespace Go.Proofs.Ytjpnhphnfbhpbaa
open Go Go.ChangeShapes Go.WideShapes Go.ChangeAt Go.RowKit

section
variable {H : Type} {enc : TypeId × Value → H} {w : World} {fuel : Nat} {cs : List Value} {x : DataW H × List MemPlace}

theorem all_of_Q {w : World} : ∀ (L : List (List Value)), (∀ cs ∈ L, ∃ v : Vd, cs = v.cells ∧ v.ok w) → ∃ vs : List Vd, L = vs.map Vd.cells ∧ ∀ v ∈ vs, v.ok w
  | [], _ => ⟨[], rfl, by simp⟩
  | c :: L, h => by
    obtain ⟨v, h1, h2⟩ := h c (by simp)
    obtain ⟨vs, h3, h4⟩ := all_of_Q L (fun cs hcs => h cs (by simp [hcs]))
    exact ⟨v :: vs, by rw [h1, h3]; rfl, by
      intro v' hv'
      rcases List.mem_cons.1 hv' with rfl | hv'
      · exact h2
      · exact h4 v' hv'⟩

theorem Vd.cells_one {v : Vd} : ∀ u ∈ v.cells, u.oneCell' = true := by
  intro u hu
  rcases List.mem_append.1 hu with hu | hu
  · simp only [List.mem_cons, List.not_mem_nil, or_false] at hu
    rcases hu with rfl | rfl | rfl <;> rfl
  · exact bv_one _ u hu

theorem rd_values (h : DataW.trod enc Try.prog w 0 (fun _ => true) true fuel 51 cs = some x) :
    ∃ (a : Option Addr) (n c : Nat) (vs : List Vd), cs = [.slice a n c] ∧ Sl w 11 a n c ((vs.map Vd.cells).flatten) ∧ vs.length = n ∧ ∀ v ∈ vs, v.ok w := by
  obtain ⟨a, n, c, L, h1, h2, h3, h4⟩ := rd_slice (Q := fun cs => ∃ v : Vd, cs = v.cells ∧ v.ok w) Try.underlying51 (es := 11) (by kernel_rfl) (fun fuel cs x h => by
    obtain ⟨u, k, ax, nx, cx, lx, y0, y1, y2, y3, y4, y5, y6, y7, hcs, wu, wk, sx⟩ := rd_value h
    have bu := bounds_u64 wu
    have bk := bounds_i64 wk
    exact ⟨⟨u, k, ax, nx, cx, lx, [y0, y1, y2, y3, y4, y5, y6, y7]⟩, hcs, ⟨(show 0 ≤ u by omega), (show u < 18446744073709551616 by omega), (show -9223372036854775808 ≤ k by omega), (show k ≤ 9223372036854775807 by omega), sx, rfl⟩⟩) (fun cs hcs => by
    obtain ⟨v, rfl, hok⟩ := hcs
    exact ⟨Vd.cells_len hok, Vd.cells_one⟩) h
  obtain ⟨vs, rfl, hok⟩ := all_of_Q L h4
  exact ⟨a, n, c, vs, h1, h3, by simpa using h2, hok⟩

end

end Go.Proofs.Ytjpnhphnfbhpbaa
