/- Elections: what holds of the places that are told, in plain Lean. -/
import Derived.Test.YtgpfjinkmagelaaElR
set_option linter.unusedVariables false
set_option linter.unusedSimpArgs false
namespace Go.Proofs.Ytgpfjinkmagelaa
open Go Go.RowKit Go.Lib

/-- What an election without an error returns. -/
theorem electL_ok {xs : List LL} {rd : List Bool} (h : (electL xs rd).2.2 = 0) : xs.length = rd.length ∧ candL xs rd ≠ [] ∧ electL xs rd = (lab xs (chooseL xs (candL xs rd)), atL xs (lab xs (chooseL xs (candL xs rd))) (candL xs rd), 0) ∧ ¬ 3 < negs (atL xs (lab xs (chooseL xs (candL xs rd))) (candL xs rd)) ∧ chooseL xs (candL xs rd) ∈ candL xs rd := by
  by_cases h1 : xs.length = rd.length
  · by_cases h2 : candL xs rd = []
    · unfold electL at h
      rw [if_neg (by simp [h1]), if_pos h2] at h
      simp at h
    · have hv : ∀ i ∈ candL xs rd, (lab xs i).valid := fun i hi => (candL_mem hi).2
      have hm := chooseL_mem (xs := xs) (candL_nodup xs rd) h2 (fun i hi => (valid_dk (hv i hi)).2.2.2.2.2.1)
      by_cases h3 : 3 < negs (atL xs (lab xs (chooseL xs (candL xs rd))) (candL xs rd))
      · unfold electL at h
        rw [if_neg (by simp [h1]), if_neg h2, if_pos h3] at h
        simp at h
      · refine ⟨h1, h2, ?_, h3, hm⟩
        unfold electL
        rw [if_neg (by simp [h1]), if_neg h2, if_neg h3]
  · unfold electL at h
    rw [if_pos (by simpa using h1)] at h
    simp at h
theorem okI_rd {xs : List LL} {rd : List Bool} {k : Nat} (h : k ∈ candL xs rd) : rd[k]? = some true := by
  have := (List.mem_filter.1 h).2
  unfold okI at this
  simp only [Bool.and_eq_true, List.getD_eq_getElem?_getD] at this
  cases hk : rd[k]? with
  | none => rw [hk] at this; simp at this
  | some b => rw [hk] at this; simp at this; rw [this.1]
/-- Where a place is told, its label is the disk's own. -/
theorem atD_some {xs : List LL} {e : Lb} {l : List Nat} {d : Int} : atD xs e l d = -1 ∨ ∃ k : Nat, atD xs e l d = (k : Int) ∧ k ∈ l ∧ inDead e.dead d = false ∧ (lab xs k).dk = d ∧ ((lab xs k).equal e ∨ (lab xs k).gen = e.prev) := by
  unfold atD
  cases h1 : l.find? (eqP xs e d) with
  | some k =>
    have h2 := List.find?_some h1
    have h3 := List.mem_of_find?_eq_some h1
    unfold eqP at h2
    simp only [Bool.and_eq_true, decide_eq_true_eq, Bool.not_eq_true'] at h2
    exact .inr ⟨k, rfl, h3, h2.1.2, h2.1.1, .inl h2.2⟩
  | none =>
    cases h4 : l.find? (pvP xs e d) with
    | some k =>
      have h2 := List.find?_some h4
      have h3 := List.mem_of_find?_eq_some h4
      unfold pvP at h2
      simp only [Bool.and_eq_true, decide_eq_true_eq, Bool.not_eq_true'] at h2
      exact .inr ⟨k, rfl, h3, h2.1.2, h2.1.1.1.1, .inr h2.2⟩
    | none => exact .inl rfl
theorem electL_dead {xs : List LL} {rd : List Bool} (h : (electL xs rd).2.2 = 0) : (((electL xs rd).2.1.length : Nat) : Int) = (electL xs rd).1.cd ∧ (electL xs rd).1.dead.length = (electL xs rd).2.1.length ∧ (electL xs rd).2.1.length ≤ 60 ∧
    ∀ d (hd : d < (electL xs rd).2.1.length), (electL xs rd).2.1[d] = -1 ∨ ∃ k : Nat, (electL xs rd).2.1[d] = (k : Int) ∧ k < xs.length ∧ inDead (electL xs rd).1.dead (d : Int) = false ∧ rd[k]? = some true ∧ (lab xs k).dk = (d : Int) ∧ ((lab xs k).gen = (electL xs rd).1.gen ∨ (lab xs k).gen = (electL xs rd).1.prev) := by
  obtain ⟨h1, h2, h3, h4, h5⟩ := electL_ok h
  obtain ⟨b, hb⟩ : ∃ b, b = chooseL xs (candL xs rd) := ⟨_, rfl⟩
  rw [← hb] at h3 h4 h5
  have hv := valid_dk (candL_mem h5).2
  rw [h3]
  have hl := atL_length xs (lab xs b) _ (candL xs rd) rfl
  refine ⟨by show ((atL xs (lab xs b) (candL xs rd)).length : Int) = (lab xs b).cd; rw [hl]; omega, by show (lab xs b).dead.length = (atL xs (lab xs b) (candL xs rd)).length; rw [hl]; omega, by show (atL xs (lab xs b) (candL xs rd)).length ≤ 60; rw [hl]; omega, fun d hd => ?_⟩
  have hd' : d < (atL xs (lab xs b) (candL xs rd)).length := hd
  have h6 := atL_get (xs := xs) (e := lab xs b) (by omega) _ (candL xs rd) rfl (fun i hi => (valid_dk (candL_mem hi).2).1) d (by omega)
  rw [List.getD_eq_getElem?_getD, List.getElem?_eq_getElem hd', Option.getD_some] at h6
  show (atL xs (lab xs b) (candL xs rd))[d] = -1 ∨ _
  rw [h6]
  rcases atD_some (xs := xs) (e := lab xs b) (l := candL xs rd) (d := (d : Int)) with h7 | ⟨k, h7, h8, h9, h10, h11⟩
  · exact .inl h7
  · refine .inr ⟨k, h7, (candL_mem h8).1, h9, okI_rd h8, h10, ?_⟩
    rcases h11 with h11 | h11
    · exact .inl h11.2.1
    · exact .inr h11

end Go.Proofs.Ytgpfjinkmagelaa
