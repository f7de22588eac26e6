/- Elections: plain facts about the groups and the chosen label. -/
import Derived.Test.YtgpfjinkmagelaaElG
set_option linter.unusedVariables false
set_option linter.unusedSimpArgs false
namespace Go.Proofs.Ytgpfjinkmagelaa
open Go Go.RowKit Go.Lib

theorem addSide_ok {xs : List LL} {l : List Nat} {gs : List (List Nat)} {j : Nat} (h : GsOk xs l gs) (hj : j ∉ l) : GsOk xs (l ++ [j]) (addSide xs gs j) := by
  unfold addSide
  split
  · rename_i k hk
    have hkl : k < gs.length := (List.findIdx?_eq_some_iff_getElem.1 hk).1
    have : gs.getD k [] = gs[k] := by simp [List.getD, hkl]
    rw [this]
    exact h.pushIn hkl
  · exact h.pushNew hj
theorem sidesOf_ok {xs : List LL} : ∀ (n : Nat) (l : List Nat), l.length = n → l.Nodup → GsOk xs l (sidesOf xs l)
  | 0, l, h, _ => by
    rw [List.eq_nil_of_length_eq_zero h]
    exact GsOk.nil _ _
  | n + 1, l, h, hn => by
    have hne : l ≠ [] := by rintro rfl; simp at h
    have hl := List.dropLast_concat_getLast hne
    rw [← hl] at hn ⊢
    have h1 := List.nodup_append.1 hn
    rw [sidesOf_add]
    exact addSide_ok (sidesOf_ok n l.dropLast (by rw [List.length_dropLast]; omega) h1.1) (fun hm => h1.2.2 _ hm _ (List.mem_singleton.2 rfl) rfl)
theorem topL_sub {xs : List LL} {m : Int} {l : List Nat} {i : Nat} (h : i ∈ topL xs m l) : i ∈ l := (List.mem_filter.1 h).1
theorem sidesL_ok {xs : List LL} {l : List Nat} (h : l.Nodup) : GsOk xs (topL xs (newestL xs l) l) (sidesL xs l) := sidesOf_ok _ _ rfl (h.filter _)

theorem newest_fold (xs : List LL) : ∀ (l : List Nat) (m : Int), (l.foldl (fun m i => max m (lab xs i).gen) m = m ∨ ∃ i ∈ l, (lab xs i).gen = l.foldl (fun m i => max m (lab xs i).gen) m) ∧ m ≤ l.foldl (fun m i => max m (lab xs i).gen) m ∧ ∀ i ∈ l, (lab xs i).gen ≤ l.foldl (fun m i => max m (lab xs i).gen) m
  | [], m => ⟨.inl rfl, by simp, by simp⟩
  | j :: l, m => by
    obtain ⟨h1, h2, h3⟩ := newest_fold xs l (max m (lab xs j).gen)
    simp only [List.foldl_cons]
    refine ⟨?_, by omega, ?_⟩
    · rcases h1 with h1 | ⟨i, hi, h1⟩
      · by_cases h : (lab xs j).gen ≤ m
        · exact .inl (by omega)
        · exact .inr ⟨j, by simp, by omega⟩
      · exact .inr ⟨i, by simp [hi], h1⟩
    · intro i hi
      rcases List.mem_cons.1 hi with rfl | hi
      · omega
      · exact h3 i hi
theorem newestL_ge {xs : List LL} {l : List Nat} {i : Nat} (h : i ∈ l) : (lab xs i).gen ≤ newestL xs l := (newest_fold xs l 0).2.2 i h
theorem newestL_at {xs : List LL} {l : List Nat} (hne : l ≠ []) (hg : ∀ i ∈ l, 1 ≤ (lab xs i).gen) : ∃ i ∈ l, (lab xs i).gen = newestL xs l := by
  rcases (newest_fold xs l 0).1 with h | h
  · obtain ⟨j, l', rfl⟩ := List.exists_cons_of_ne_nil hne
    have h1 := hg j (by simp)
    have h2 := (newest_fold xs (j :: l') 0).2.2 j (by simp)
    omega
  · exact h
theorem addSide_ne (xs : List LL) (gs : List (List Nat)) (j : Nat) : addSide xs gs j ≠ [] := by
  unfold addSide
  split
  · rename_i k hk
    have hkl : k < gs.length := (List.findIdx?_eq_some_iff_getElem.1 hk).1
    intro h
    have := congrArg List.length h
    rw [List.length_set] at this
    simp at this
    rw [this] at hkl
    simp at hkl
  · simp
theorem sidesOf_ne {xs : List LL} {l : List Nat} (h : l ≠ []) : sidesOf xs l ≠ [] := by
  have hl := List.dropLast_concat_getLast h
  rw [← hl, sidesOf_add]
  exact addSide_ne _ _ _
theorem sidesL_ne {xs : List LL} {l : List Nat} (hne : l ≠ []) (hg : ∀ i ∈ l, 1 ≤ (lab xs i).gen) : sidesL xs l ≠ [] := by
  obtain ⟨i, hi, he⟩ := newestL_at hne hg
  refine sidesOf_ne ?_
  intro h
  have : i ∈ topL xs (newestL xs l) l := List.mem_filter.2 ⟨hi, by simp [he]⟩
  rw [h] at this
  simp at this
theorem bestG_mem (xs : List LL) (g : List Nat) (gs : List (List Nat)) : bestG xs (g :: gs) ∈ g :: gs := by
  show List.foldl _ _ _ ∈ _
  induction gs generalizing g with
  | nil => simp
  | cons h gs ih =>
    simp only [List.foldl_cons]
    have := ih (if betterG xs g h = true then h else g)
    rcases List.mem_cons.1 this with h1 | h1
    · rw [h1]; split <;> simp
    · exact List.mem_cons_of_mem _ (List.mem_cons_of_mem _ h1)
theorem amongL_ne {xs : List LL} {gs : List (List Nat)} (h : gs ≠ []) : amongL xs gs ≠ [] := by
  unfold amongL
  split <;> assumption
theorem amongL_sub {xs : List LL} {gs : List (List Nat)} {g : List Nat} (h : g ∈ amongL xs gs) : g ∈ gs := by
  unfold amongL at h
  split at h
  · exact h
  · exact (List.mem_filter.1 h).1
theorem chooseL_top {xs : List LL} {l : List Nat} (hn : l.Nodup) (hne : l ≠ []) (hg : ∀ i ∈ l, 1 ≤ (lab xs i).gen) : chooseL xs l ∈ topL xs (newestL xs l) l := by
  have h1 := amongL_ne (xs := xs) (sidesL_ne hne hg)
  obtain ⟨g, gs, h2⟩ := List.exists_cons_of_ne_nil h1
  have h3 := bestG_mem xs g gs
  rw [← h2] at h3
  have h4 := (sidesL_ok hn).mem _ (amongL_sub h3)
  unfold chooseL
  obtain ⟨y, ys, h5⟩ := List.exists_cons_of_ne_nil h4.1
  rw [h5]
  exact h4.2 y (by rw [h5]; simp)
theorem chooseL_mem {xs : List LL} {l : List Nat} (hn : l.Nodup) (hne : l ≠ []) (hg : ∀ i ∈ l, 1 ≤ (lab xs i).gen) : chooseL xs l ∈ l := topL_sub (chooseL_top hn hne hg)

/-! ### the whole election -/
def okI (xs : List LL) (rd : List Bool) (i : Nat) : Bool := rd.getD i false && decide (lab xs i).valid
def candL (xs : List LL) (rd : List Bool) : List Nat := (List.range xs.length).filter (okI xs rd)
/-- May a label's disk be in service? -/
def qualL (e l : Lb) : Bool := decide (l.arr = e.arr) && decide (l.cfgSame e) && !inDead e.dead l.dk && (decide (l.equal e) || decide (l.gen = e.prev))
def stepAt (xs : List LL) (e : Lb) (zs : List Int) (i : Nat) : List Int :=
  if qualL e (lab xs i) then
    if zs.getD (lab xs i).dk.toNat 0 < 0 ∨ (lab xs (zs.getD (lab xs i).dk.toNat 0).toNat).gen < (lab xs i).gen then zs.set (lab xs i).dk.toNat (i : Int) else zs
  else zs
def atL (xs : List LL) (e : Lb) (l : List Nat) : List Int := l.foldl (stepAt xs e) (List.replicate e.cd.toNat (-1))
def electL (xs : List LL) (rd : List Bool) : Lb × List Int × Int :=
  if xs.length ≠ rd.length then (lbz, [], 1)
  else if candL xs rd = [] then (lbz, [], 9)
  else if 3 < negs (atL xs (lab xs (chooseL xs (candL xs rd))) (candL xs rd)) then (lbz, [], 12)
  else (lab xs (chooseL xs (candL xs rd)), atL xs (lab xs (chooseL xs (candL xs rd))) (candL xs rd), 0)
theorem candL_nodup (xs : List LL) (rd : List Bool) : (candL xs rd).Nodup := List.nodup_range.filter _
theorem candL_mem {xs : List LL} {rd : List Bool} {i : Nat} (h : i ∈ candL xs rd) : i < xs.length ∧ (lab xs i).valid := by
  obtain ⟨h1, h2⟩ := List.mem_filter.1 h
  unfold okI at h2
  simp only [Bool.and_eq_true, decide_eq_true_eq] at h2
  exact ⟨List.mem_range.1 h1, h2.2⟩
/-- Places are -1 or indices. -/
def AtOk (n : Nat) (zs : List Int) : Prop := ∀ z ∈ zs, z = -1 ∨ (0 ≤ z ∧ z < n)
theorem stepAt_ok {xs : List LL} {e : Lb} {zs : List Int} {i : Nat} (h : AtOk xs.length zs) (hi : i < xs.length) : AtOk xs.length (stepAt xs e zs i) := by
  unfold stepAt
  split
  · split
    · intro z hz
      rcases List.mem_or_eq_of_mem_set hz with hz | rfl
      · exact h z hz
      · exact .inr (by omega)
    · exact h
  · exact h
theorem stepAt_length (xs : List LL) (e : Lb) (zs : List Int) (i : Nat) : (stepAt xs e zs i).length = zs.length := by
  unfold stepAt
  split
  · split
    · rw [List.length_set]
    · rfl
  · rfl

end Go.Proofs.Ytgpfjinkmagelaa
