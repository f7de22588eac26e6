/- The readings of slices of labels, of numbers. -/
import Derived.Test.YtgpfjinkmagelaaReadL
import Derived.Test.YtgpfjinkmagelaaElKit
set_option linter.unusedVariables false
set_option linter.unusedSimpArgs false
namespace Go.Proofs.Ytgpfjinkmagelaa
open Go Go.ChangeShapes Go.WideShapes Go.ChangeAt Go.RowKit

section
variable {H : Type} {enc : TypeId × Value → H} {w : World} {fuel : Nat} {cs : List Value} {x : DataW H × List MemPlace}

theorem flatten_int {L : List (List Value)} (h : ∀ cs ∈ L, ∃ z : Int, cs = [.int .i64 z]) : ∃ l : List Int, L.flatten = zc l := by
  induction L with
  | nil => exact ⟨[], rfl⟩
  | cons c L ih =>
    obtain ⟨l, h1⟩ := ih (fun cs hcs => h cs (by simp [hcs]))
    obtain ⟨b, rfl⟩ := h c (by simp)
    exact ⟨b :: l, by simp [h1, zc]⟩
theorem rd_ints (h : DataW.trod enc Try.prog w 0 (fun _ => true) true fuel 33 cs = some x) : ∃ (a : Option Addr) (n c : Nat) (l : List Int), cs = [.slice a n c] ∧ Sl w 1 a n c (zc l) := by
  obtain ⟨a, n, c, L, h1, h2, h3, h4⟩ := rd_slice (Q := fun cs => ∃ z : Int, cs = [.int .i64 z]) Try.underlying33 (es := 1) (by kernel_rfl) (fun fuel cs x h => by
    obtain ⟨n, rfl, hw⟩ := rd_int Try.underlying3 h
    exact ⟨n, rfl⟩) (fun cs hcs => by
    obtain ⟨b, rfl⟩ := hcs
    exact ⟨rfl, by simp [Value.oneCell']⟩) h
  obtain ⟨l, hl⟩ := flatten_int h4
  rw [hl] at h3
  exact ⟨a, n, c, l, h1, h3⟩

theorem flatten_lab {w : World} {L : List (List Value)} (h : ∀ cs ∈ L, ∃ x : LL, cs = x.arr.toList ∧ Sl w 1 x.ad x.nd x.c (bb x.l.dead) ∧ x.l.num) : ∃ xs : List LL, L.flatten = lcs xs ∧ (∀ x ∈ xs, Sl w 1 x.ad x.nd x.c (bb x.l.dead)) ∧ ∀ x ∈ xs, x.l.num := by
  induction L with
  | nil => exact ⟨[], rfl, by simp, by simp⟩
  | cons c L ih =>
    obtain ⟨l, h1, h2, h3⟩ := ih (fun cs hcs => h cs (by simp [hcs]))
    obtain ⟨b, rfl, h4, h5⟩ := h c (by simp)
    refine ⟨b :: l, by simp [h1, lcs], fun x hx => ?_, fun x hx => ?_⟩
    · rcases List.mem_cons.1 hx with rfl | hx
      · exact h4
      · exact h2 x hx
    · rcases List.mem_cons.1 hx with rfl | hx
      · exact h5
      · exact h3 x hx
theorem rd_labels (h : DataW.trod enc Try.prog w 0 (fun _ => true) true fuel 22 cs = some x) : ∃ (a : Option Addr) (n c : Nat) (xs : List LL), cs = [.slice a n c] ∧ Lbs w a n c xs ∧ ∀ x ∈ xs, x.l.num := by
  obtain ⟨a, n, c, L, h1, h2, h3, h4⟩ := rd_slice (Q := fun cs => ∃ x : LL, cs = x.arr.toList ∧ Sl w 1 x.ad x.nd x.c (bb x.l.dead) ∧ x.l.num) Try.underlying22 (es := 19) (by kernel_rfl) (fun fuel cs x h => by
    obtain ⟨l, ad, nd, c, hc, hs, hn⟩ := rd_label h
    exact ⟨⟨l, ad, nd, c⟩, hc, hs, hn⟩) (fun cs hcs => by
    obtain ⟨x, rfl, _, _⟩ := hcs
    exact ⟨x.arr_length, x.arr_one⟩) h
  obtain ⟨xs, hl, h5, h6⟩ := flatten_lab h4
  rw [hl] at h3
  exact ⟨a, n, c, xs, h1, ⟨h3, h5⟩, h6⟩
end

end Go.Proofs.Ytgpfjinkmagelaa
