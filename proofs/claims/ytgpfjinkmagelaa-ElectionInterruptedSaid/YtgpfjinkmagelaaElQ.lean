/- Elections: which label is chosen and which places are told, in plain Lean: the first label with the greatest key among the newest ones. -/
import Derived.Test.YtgpfjinkmagelaaElP
set_option linter.unusedVariables false
set_option linter.unusedSimpArgs false
namespace Go.Proofs.Ytgpfjinkmagelaa
open Go Go.RowKit Go.Lib

theorem Lb.equal.rfl' (a : Lb) : a.equal a := by unfold Lb.equal Lb.cfgSame; simp
theorem Lb.equal.sym {a b : Lb} (h : a.equal b) : b.equal a := by
  unfold Lb.equal Lb.cfgSame at *
  obtain ⟨h1, h2, h3, ⟨c1, c2, c3, c4, c5, c6, c7, c8, c9, c10, c11⟩, h4, h5, h6, h7⟩ := h
  exact ⟨h1.symm, h2.symm, h3.symm, ⟨c1.symm, c2.symm, c3.symm, c4.symm, c5.symm, c6.symm, c7.symm, c8.symm, c9.symm, c10.symm, c11.symm⟩, h4.symm, h5.symm, h6.symm, h7.symm⟩
theorem Lb.equal.trans {a b c : Lb} (h : a.equal b) (h' : b.equal c) : a.equal c := by
  unfold Lb.equal Lb.cfgSame at *
  obtain ⟨h1, h2, h3, ⟨c1, c2, c3, c4, c5, c6, c7, c8, c9, c10, c11⟩, h4, h5, h6, h7⟩ := h
  obtain ⟨g1, g2, g3, ⟨d1, d2, d3, d4, d5, d6, d7, d8, d9, d10, d11⟩, g4, g5, g6, g7⟩ := h'
  exact ⟨h1.trans g1, h2.trans g2, h3.trans g3, ⟨c1.trans d1, c2.trans d2, c3.trans d3, c4.trans d4, c5.trans d5, c6.trans d6, c7.trans d7, c8.trans d8, c9.trans d9, c10.trans d10, c11.trans d11⟩, h4.trans g4, h5.trans g5, h6.trans g6, h7.trans g7⟩
theorem Lb.equal.congr_right {a b : Lb} (h : a.equal b) (c : Lb) : decide (c.equal a) = decide (c.equal b) := by
  rw [decide_eq_decide]; exact ⟨fun h' => h'.trans h, fun h' => h'.trans h.sym⟩

/-- How many labels of a list are equal to x; the lowest disk among these; does x outlive the others of its generation? -/
def mateL (xs : List LL) (l : List Nat) (x : Lb) : List Nat := l.filter fun i => decide ((lab xs i).equal x)
def votesN (xs : List LL) (l : List Nat) (x : Lb) : Nat := (mateL xs l x).length
def lowN (xs : List LL) (l : List Nat) (x : Lb) : Int := (mateL xs l x).foldl (fun m i => min m (lab xs i).dk) 60
def outlR (xs : List LL) (l : List Nat) (x : Lb) : Bool := l.all fun i => !(decide ((lab xs i).gen = x.gen)) || decide ((lab xs i).equal x) || inDead x.dead (lab xs i).dk
def keyR (xs : List LL) (l : List Nat) (x : Lb) : Int := (if outlR xs l x then 1000000 else 0) + 1000 * votesN xs l x + (100 - lowN xs l x)
def betterR (xs : List LL) (l : List Nat) (a b : Lb) : Bool :=
  if outlR xs l a ≠ outlR xs l b then outlR xs l a else decide (votesN xs l a > votesN xs l b) || (decide (votesN xs l a = votesN xs l b) && decide (lowN xs l a < lowN xs l b))

theorem fold_min (xs : List LL) : ∀ (l : List Nat) (m : Int), l.foldl (fun m i => min m (lab xs i).dk) m ≤ m ∧ (∀ i ∈ l, l.foldl (fun m i => min m (lab xs i).dk) m ≤ (lab xs i).dk) ∧ (l.foldl (fun m i => min m (lab xs i).dk) m = m ∨ ∃ i ∈ l, l.foldl (fun m i => min m (lab xs i).dk) m = (lab xs i).dk)
  | [], m => ⟨by simp, by simp, .inl rfl⟩
  | j :: l, m => by
    obtain ⟨h1, h2, h3⟩ := fold_min xs l (min m (lab xs j).dk)
    simp only [List.foldl_cons]
    refine ⟨by omega, fun i hi => ?_, ?_⟩
    · rcases List.mem_cons.1 hi with rfl | hi
      · omega
      · exact h2 i hi
    · rcases h3 with h3 | ⟨i, hi, h3⟩
      · by_cases h : m ≤ (lab xs j).dk
        · exact .inl (by omega)
        · exact .inr ⟨j, by simp, by omega⟩
      · exact .inr ⟨i, by simp [hi], h3⟩
theorem lowN_le (xs : List LL) (l : List Nat) (x : Lb) : lowN xs l x ≤ 60 := (fold_min xs _ 60).1
theorem lowN_ge {xs : List LL} {l : List Nat} (x : Lb) (hd : ∀ i ∈ l, 0 ≤ (lab xs i).dk) : 0 ≤ lowN xs l x := by
  rcases (fold_min xs (mateL xs l x) 60).2.2 with h | ⟨i, hi, h⟩
  · unfold lowN; omega
  · have := hd i (List.mem_filter.1 hi).1
    unfold lowN; omega
theorem lowN_at {xs : List LL} {l : List Nat} {x : Lb} (hne : mateL xs l x ≠ []) (hd : ∀ i ∈ l, (lab xs i).dk ≤ 60) : ∃ i ∈ mateL xs l x, lowN xs l x = (lab xs i).dk := by
  rcases (fold_min xs (mateL xs l x) 60).2.2 with h | ⟨i, hi, h⟩
  · obtain ⟨j, l', hj⟩ := List.exists_cons_of_ne_nil hne
    have hjm : j ∈ mateL xs l x := by rw [hj]; simp
    have h1 := (fold_min xs (mateL xs l x) 60).2.1 j hjm
    have h2 := hd j (List.mem_filter.1 hjm).1
    exact ⟨j, hjm, by unfold lowN; omega⟩
  · exact ⟨i, hi, h⟩
theorem votesN_le (xs : List LL) (l : List Nat) (x : Lb) : votesN xs l x ≤ l.length := List.length_filter_le _ _
theorem betterR_key {xs : List LL} {l : List Nat} (hl : l.length ≤ 500) (hd : ∀ i ∈ l, 0 ≤ (lab xs i).dk) (a b : Lb) : betterR xs l a b = true ↔ keyR xs l b < keyR xs l a := by
  have a1 := lowN_le xs l a; have a2 := lowN_ge a hd; have a3 := votesN_le xs l a
  have b1 := lowN_le xs l b; have b2 := lowN_ge b hd; have b3 := votesN_le xs l b
  unfold betterR keyR
  cases outlR xs l a <;> cases outlR xs l b <;> simp <;> omega
theorem mateL_congr {xs : List LL} {l : List Nat} {a b : Lb} (h : a.equal b) : mateL xs l a = mateL xs l b := by
  unfold mateL
  congr 1
  funext i
  exact h.congr_right _
theorem keyR_congr {xs : List LL} {l : List Nat} {a b : Lb} (h : a.equal b) : keyR xs l a = keyR xs l b := by
  have h1 := mateL_congr (xs := xs) (l := l) h
  have h2 : outlR xs l a = outlR xs l b := by
    unfold outlR
    congr 1
    funext i
    rw [h.congr_right, h.2.1, h.2.2.2.2.1]
  unfold keyR votesN lowN
  rw [h1, h2]

/-- i is the first one with the greatest key among the newest of p (keys are told over l). -/
structure Best (xs : List LL) (l p : List Nat) (i : Nat) : Prop where
  mem : i ∈ p
  gen : ∀ j ∈ p, (lab xs j).gen ≤ (lab xs i).gen
  key : ∀ j ∈ p, (lab xs j).gen = (lab xs i).gen → keyR xs l (lab xs j) ≤ keyR xs l (lab xs i) ∧ (j < i → keyR xs l (lab xs j) < keyR xs l (lab xs i))
theorem Best.unique {xs : List LL} {l p : List Nat} {i j : Nat} (h : Best xs l p i) (h' : Best xs l p j) : i = j := by
  have h1 := h.gen j h'.mem
  have h2 := h'.gen i h.mem
  have h3 := h.key j h'.mem (by omega)
  have h4 := h'.key i h.mem (by omega)
  rcases Nat.lt_trichotomy i j with h5 | h5 | h5
  · have := h4.2 h5; omega
  · exact h5
  · have := h3.2 h5; omega
/-- One more is looked at. -/
theorem Best.step {xs : List LL} {l p : List Nat} {i k : Nat} (h : Best xs l p i) (hk : ∀ j ∈ p, j < k) : Best xs l (p ++ [k]) (if (lab xs i).gen < (lab xs k).gen ∨ ((lab xs k).gen = (lab xs i).gen ∧ keyR xs l (lab xs i) < keyR xs l (lab xs k)) then k else i) := by
  have hik := hk i h.mem
  split
  · rename_i hc
    refine ⟨by simp, fun j hj => ?_, fun j hj hg => ?_⟩
    · rcases List.mem_append.1 hj with hj | hj
      · have := h.gen j hj; omega
      · obtain rfl := List.mem_singleton.1 hj; omega
    · rcases List.mem_append.1 hj with hj | hj
      · have h1 := h.gen j hj
        have h2 := h.key j hj
        have : (lab xs j).gen = (lab xs i).gen := by omega
        have h3 := h2 this
        have h4 : keyR xs l (lab xs i) < keyR xs l (lab xs k) := by omega
        exact ⟨by omega, fun _ => by omega⟩
      · obtain rfl := List.mem_singleton.1 hj; exact ⟨by omega, fun h => by omega⟩
  · rename_i hc
    refine ⟨List.mem_append_left _ h.mem, fun j hj => ?_, fun j hj hg => ?_⟩
    · rcases List.mem_append.1 hj with hj | hj
      · exact h.gen j hj
      · obtain rfl := List.mem_singleton.1 hj; omega
    · rcases List.mem_append.1 hj with hj | hj
      · exact h.key j hj hg
      · obtain rfl := List.mem_singleton.1 hj; exact ⟨by omega, fun h => by omega⟩
theorem Best.one (xs : List LL) (l : List Nat) (k : Nat) : Best xs l [k] k := by
  refine ⟨by simp, fun j hj => ?_, fun j hj hg => ?_⟩ <;> obtain rfl := List.mem_singleton.1 hj
  · omega
  · exact ⟨by omega, fun h => by omega⟩

/-! ### the groups are the classes -/
structure Cls (xs : List LL) (l : List Nat) (gs : List (List Nat)) : Prop where
  cls : ∀ g ∈ gs, g ≠ [] ∧ g = mateL xs l (lab xs (g.headD 0))
  all : ∀ j ∈ l, ∃ g ∈ gs, (lab xs j).equal (lab xs (g.headD 0))
  inc : gs.Pairwise fun g h => g.headD 0 < h.headD 0 ∧ ¬ (lab xs (g.headD 0)).equal (lab xs (h.headD 0))
theorem headD_mem {g : List Nat} (h : g ≠ []) : g.headD 0 ∈ g := by cases g with | nil => exact (h rfl).elim | cons x g => simp
theorem headD_app {g : List Nat} (h : g ≠ []) (j : Nat) : (g ++ [j]).headD 0 = g.headD 0 := by cases g with | nil => exact (h rfl).elim | cons x g => rfl
theorem mateL_app (xs : List LL) (l : List Nat) (j : Nat) (x : Lb) : mateL xs (l ++ [j]) x = mateL xs l x ++ (if (lab xs j).equal x then [j] else []) := by
  unfold mateL
  rw [List.filter_append]
  congr 1
  by_cases h : (lab xs j).equal x <;> simp [h]
theorem Cls.add {xs : List LL} {l : List Nat} {gs : List (List Nat)} {j : Nat} (h : Cls xs l gs) (hj : ∀ i ∈ l, i < j) : Cls xs (l ++ [j]) (addSide xs gs j) := by
  have hmem : ∀ g ∈ gs, g.headD 0 ∈ l := fun g hg => by
    have h1 := headD_mem (h.cls g hg).1
    have h2 : g.headD 0 ∈ mateL xs l (lab xs (g.headD 0)) := (h.cls g hg).2 ▸ h1
    exact (List.mem_filter.1 h2).1
  unfold addSide
  split
  · rename_i k hk
    obtain ⟨hkl, hm, -⟩ := List.findIdx?_eq_some_iff_getElem.1 hk
    have hgd : gs.getD k [] = gs[k] := by simp [-List.headD_eq_head?_getD, List.getD, hkl]
    rw [hgd]
    have hmk : (lab xs (gs[k].headD 0)).equal (lab xs j) := by simpa [-List.headD_eq_head?_getD, mates] using hm
    have hck := h.cls gs[k] (List.getElem_mem hkl)
    have hhd : (gs[k] ++ [j]).headD 0 = gs[k].headD 0 := headD_app hck.1 j
    have hsome : ∀ g ∈ gs.set k (gs[k] ++ [j]), g.headD 0 = gs[k].headD 0 ∧ g = gs[k] ++ [j] ∨ ∃ a, a ≠ k ∧ ∃ ha : a < gs.length, g = gs[a] := by
      intro g hg
      obtain ⟨a, ha, rfl⟩ := List.getElem_of_mem hg
      rw [List.length_set] at ha
      by_cases hak : k = a
      · subst hak; left; rw [List.getElem_set_self]; exact ⟨hhd, rfl⟩
      · right; exact ⟨a, fun e => hak e.symm, ha, by rw [List.getElem_set_ne hak]⟩
    have hpw := List.pairwise_iff_getElem.1 h.inc
    refine ⟨fun g hg => ?_, fun i hi => ?_, ?_⟩
    · rcases hsome g hg with ⟨h1, rfl⟩ | ⟨a, hak, ha, rfl⟩
      · refine ⟨by simp, ?_⟩
        rw [h1, mateL_app, if_pos hmk.sym, ← hck.2]
      · have hca := h.cls gs[a] (List.getElem_mem ha)
        refine ⟨hca.1, ?_⟩
        rw [mateL_app, if_neg, List.append_nil]
        · exact hca.2
        · intro he
          have h2 : (lab xs (gs[k].headD 0)).equal (lab xs (gs[a].headD 0)) := hmk.trans he
          rcases Nat.lt_or_gt_of_ne hak with h3 | h3
          · exact (hpw a k ha hkl h3).2 h2.sym
          · exact (hpw k a hkl ha h3).2 h2
    · rcases List.mem_append.1 hi with hi | hi
      · obtain ⟨g, hg, he⟩ := h.all i hi
        obtain ⟨a, ha, rfl⟩ := List.getElem_of_mem hg
        by_cases hak : k = a
        · subst hak
          exact ⟨gs[k] ++ [j], List.mem_iff_getElem.2 ⟨k, by rw [List.length_set]; exact hkl, by simp [-List.headD_eq_head?_getD]⟩, by rw [hhd]; exact he⟩
        · exact ⟨gs[a], List.mem_iff_getElem.2 ⟨a, by rw [List.length_set]; exact ha, List.getElem_set_ne hak _⟩, he⟩
      · obtain rfl := List.mem_singleton.1 hi
        exact ⟨gs[k] ++ [i], List.mem_iff_getElem.2 ⟨k, by rw [List.length_set]; exact hkl, by simp [-List.headD_eq_head?_getD]⟩, by rw [hhd]; exact hmk.sym⟩
    · rw [List.pairwise_iff_getElem]
      intro a b ha hb hab
      rw [List.length_set] at ha hb
      have e : ∀ c (hc : c < gs.length) (hc' : c < (gs.set k (gs[k] ++ [j])).length), (gs.set k (gs[k] ++ [j]))[c].headD 0 = gs[c].headD 0 := by
        intro c hc hc'
        by_cases hkc : k = c
        · subst hkc; rw [List.getElem_set_self]; exact hhd
        · rw [List.getElem_set_ne hkc]
      rw [e a ha, e b hb]
      exact hpw a b ha hb hab
  · rename_i hno
    have hno' : ∀ g ∈ gs, ¬ (lab xs (g.headD 0)).equal (lab xs j) := by
      intro g hg he
      have := List.findIdx?_eq_none_iff.1 hno g hg
      simp [-List.headD_eq_head?_getD, mates, he] at this
    refine ⟨fun g hg => ?_, fun i hi => ?_, ?_⟩
    · rcases List.mem_append.1 hg with hg | hg
      · have hca := h.cls g hg
        refine ⟨hca.1, ?_⟩
        rw [mateL_app, if_neg (fun he => hno' g hg he.sym), List.append_nil]
        exact hca.2
      · obtain rfl := List.mem_singleton.1 hg
        refine ⟨by simp, ?_⟩
        rw [mateL_app, List.headD_cons, if_pos (Lb.equal.rfl' _)]
        have : mateL xs l (lab xs j) = [] := by
          refine List.filter_eq_nil_iff.2 fun i hi he => ?_
          obtain ⟨g, hg, h2⟩ := h.all i hi
          exact hno' g hg (h2.sym.trans (by simpa [-List.headD_eq_head?_getD] using he))
        rw [this]
        rfl
    · rcases List.mem_append.1 hi with hi | hi
      · obtain ⟨g, hg, he⟩ := h.all i hi
        exact ⟨g, List.mem_append_left _ hg, he⟩
      · obtain rfl := List.mem_singleton.1 hi
        exact ⟨[i], by simp, Lb.equal.rfl' _⟩
    · rw [List.pairwise_append]
      refine ⟨h.inc, by simp, fun g hg g' hg' => ?_⟩
      obtain rfl := List.mem_singleton.1 hg'
      exact ⟨hj _ (hmem g hg), hno' g hg⟩
theorem Cls.sides {xs : List LL} : ∀ (n : Nat) (l : List Nat), l.length = n → l.Pairwise (· < ·) → Cls xs l (sidesOf xs l)
  | 0, l, h, _ => by
    rw [List.eq_nil_of_length_eq_zero h]
    exact ⟨by simp [-List.headD_eq_head?_getD, sidesOf], by simp, by simp [-List.headD_eq_head?_getD, sidesOf]⟩
  | n + 1, l, h, hn => by
    have hne : l ≠ [] := by rintro rfl; simp [-List.headD_eq_head?_getD] at h
    have hl := List.dropLast_concat_getLast hne
    rw [← hl] at hn ⊢
    have h1 := List.pairwise_append.1 hn
    rw [sidesOf_add]
    exact (Cls.sides n l.dropLast (by rw [List.length_dropLast]; omega) h1.1).add fun i hi => h1.2.2 i hi _ (List.mem_singleton.2 rfl)

theorem bestG_char {K : List Nat → Int} {H : List Nat → Nat} {P : List Nat → List Nat → Bool} : ∀ (gs : List (List Nat)) (g : List Nat), (∀ b ∈ g :: gs, ∀ s ∈ g :: gs, (P b s = true ↔ K b < K s)) → (∀ s ∈ gs, H g < H s) → gs.Pairwise (fun a b => H a < H b) →
    let b := gs.foldl (fun b s => if P b s then s else b) g
    b ∈ g :: gs ∧ ∀ s ∈ g :: gs, K s ≤ K b ∧ (H s < H b → K s < K b)
  | [], g, _, _, _ => by simp [-List.headD_eq_head?_getD]
  | h :: gs, g, hP, hg, hp => by
    intro b
    have hp1 := List.pairwise_cons.1 hp
    have hgh := hg h (by simp [-List.headD_eq_head?_getD])
    have hP1 := hP g (by simp [-List.headD_eq_head?_getD]) h (by simp [-List.headD_eq_head?_getD])
    have ih := bestG_char gs (if P g h then h else g) (fun b hb s hs => hP b (by split at hb <;> (rcases List.mem_cons.1 hb with rfl | hb <;> simp [-List.headD_eq_head?_getD, *])) s (by split at hs <;> (rcases List.mem_cons.1 hs with rfl | hs <;> simp [-List.headD_eq_head?_getD, *]))) (by
      intro s hs
      have h1 := hp1.1 s hs
      have h2 := hg s (by simp [-List.headD_eq_head?_getD, hs])
      split <;> assumption) hp1.2
    have hb : b = gs.foldl (fun b s => if P b s then s else b) (if P g h then h else g) := rfl
    rw [← hb] at ih
    obtain ⟨ih1, ih2⟩ := ih
    by_cases hc : P g h = true
    · rw [if_pos hc] at ih1 ih2
      have hlt := hP1.1 hc
      have hh := ih2 h (by simp [-List.headD_eq_head?_getD])
      refine ⟨List.mem_cons_of_mem _ ih1, fun s hs => ?_⟩
      rcases List.mem_cons.1 hs with rfl | hs
      · exact ⟨by omega, fun _ => by omega⟩
      · exact ih2 s hs
    · rw [if_neg hc] at ih1 ih2
      have hge : ¬ K g < K h := fun h' => hc (hP1.2 h')
      have hh := ih2 g (by simp [-List.headD_eq_head?_getD])
      refine ⟨?_, fun s hs => ?_⟩
      · rcases List.mem_cons.1 ih1 with h1 | h1
        · rw [h1]; simp [-List.headD_eq_head?_getD]
        · simp [-List.headD_eq_head?_getD, h1]
      · rcases List.mem_cons.1 hs with rfl | hs
        · exact hh
        · rcases List.mem_cons.1 hs with rfl | hs
          · refine ⟨by omega, fun h' => ?_⟩
            have := hh.2 (by omega)
            omega
          · exact ih2 s (by simp [-List.headD_eq_head?_getD, hs])

theorem minL_fold (xs : List LL) : ∀ (g : List Nat), g ≠ [] → (∀ i ∈ g, (lab xs i).dk ≤ 60) → minL (g.map fun i => (lab xs i).dk) = g.foldl (fun m i => min m (lab xs i).dk) 60
  | [], h, _ => (h rfl).elim
  | j :: g, _, hd => by
    simp only [List.map_cons, minL, List.foldl_cons, List.foldl_map]
    rw [show min 60 (lab xs j).dk = (lab xs j).dk by have := hd j (by simp [-List.headD_eq_head?_getD]); omega]

/-- What a group's key is. -/
theorem key_group {xs : List LL} {l : List Nat} (hl : l.length ≤ 500) (hd : ∀ i ∈ l, 0 ≤ (lab xs i).dk ∧ (lab xs i).dk ≤ 60) {g : List Nat} (hne : g ≠ []) (hg : g = mateL xs l (lab xs (g.headD 0))) :
    votesN xs l (lab xs (g.headD 0)) = g.length ∧ lowN xs l (lab xs (g.headD 0)) = lowL xs g := by
  unfold votesN lowN lowL
  rw [← hg]
  refine ⟨rfl, (minL_fold xs g hne fun i hi => ?_).symm⟩
  rw [hg] at hi
  exact (hd i (List.mem_filter.1 hi).1).2

theorem newest_top {xs : List LL} {l : List Nat} {i : Nat} (h : i ∈ topL xs (newestL xs l) l) : i ∈ l ∧ (lab xs i).gen = newestL xs l := by
  obtain ⟨h1, h2⟩ := List.mem_filter.1 h
  exact ⟨h1, by simpa [-List.headD_eq_head?_getD] using h2⟩
theorem mate_top {xs : List LL} {l : List Nat} {x : Lb} (h : x.gen = newestL xs l) : mateL xs (topL xs (newestL xs l) l) x = mateL xs l x := by
  unfold mateL topL
  rw [List.filter_filter]
  congr 1
  funext i
  by_cases he : (lab xs i).equal x
  · simp [-List.headD_eq_head?_getD, he, he.2.1, h]
  · simp [-List.headD_eq_head?_getD, he]

/-- The code's choice. -/
theorem chooseL_best {xs : List LL} {l : List Nat} (hasc : l.Pairwise (· < ·)) (hne : l ≠ []) (hg : ∀ i ∈ l, 1 ≤ (lab xs i).gen) (hl : l.length ≤ 500) (hd : ∀ i ∈ l, 0 ≤ (lab xs i).dk ∧ (lab xs i).dk ≤ 60) : Best xs l l (chooseL xs l) := by
  obtain ⟨top, htop⟩ : ∃ top, top = topL xs (newestL xs l) l := ⟨_, rfl⟩
  have hcls : Cls xs top (sidesL xs l) := by
    unfold sidesL
    rw [← htop]
    exact Cls.sides _ _ rfl (by rw [htop]; exact hasc.filter _)
  have htl : ∀ i ∈ top, i ∈ l ∧ (lab xs i).gen = newestL xs l := fun i hi => newest_top (htop ▸ hi)
  have hne2 := sidesL_ne hne hg
  obtain ⟨gs, hgs⟩ : ∃ gs, gs = sidesL xs l := ⟨_, rfl⟩
  rw [← hgs] at hcls hne2
  -- a group's key
  have hhead : ∀ g ∈ gs, g.headD 0 ∈ top := fun g hg => by
    have h1 := headD_mem (hcls.cls g hg).1
    have h2 : g.headD 0 ∈ mateL xs top (lab xs (g.headD 0)) := (hcls.cls g hg).2 ▸ h1
    exact (List.mem_filter.1 h2).1
  have hcl2 : ∀ g ∈ gs, g ≠ [] ∧ g = mateL xs l (lab xs (g.headD 0)) := fun g hg => by
    refine ⟨(hcls.cls g hg).1, ?_⟩
    have h1 := (hcls.cls g hg).2
    rw [htop, mate_top (htl _ (hhead g hg)).2] at h1
    exact h1
  have hvl : ∀ g ∈ gs, votesN xs l (lab xs (g.headD 0)) = g.length ∧ lowN xs l (lab xs (g.headD 0)) = lowL xs g := fun g hg => key_group hl hd (hcl2 g hg).1 (hcl2 g hg).2
  have hout : ∀ g ∈ gs, outG xs gs g = outlR xs l (lab xs (g.headD 0)) := by
    intro g hg
    have hgen := (htl _ (hhead g hg)).2
    unfold outG outlR
    rw [Bool.eq_iff_iff, List.all_eq_true, List.all_eq_true]
    constructor
    · intro h i hi
      by_cases hgi : (lab xs i).gen = newestL xs l
      · have hit : i ∈ top := by rw [htop]; exact List.mem_filter.2 ⟨hi, by simp [-List.headD_eq_head?_getD, hgi]⟩
        by_cases heq : (lab xs i).equal (lab xs (g.headD 0))
        · simp [-List.headD_eq_head?_getD, heq]
        · obtain ⟨o, ho, h1⟩ := hcls.all i hit
          have h2 := h o ho
          have h3 : i ∈ o := by rw [(hcls.cls o ho).2]; exact List.mem_filter.2 ⟨hit, by simpa [-List.headD_eq_head?_getD] using h1⟩
          have h4 : ¬ o.headD 0 = g.headD 0 := fun e => heq (e ▸ h1)
          rw [Bool.or_eq_true] at h2
          rcases h2 with h2 | h2
          · exact (h4 (by simpa [-List.headD_eq_head?_getD] using h2)).elim
          · have := List.all_eq_true.1 h2 i h3
            simp [-List.headD_eq_head?_getD, this]
      · simp [-List.headD_eq_head?_getD, hgi, hgen]
    · intro h o ho
      by_cases h1 : o.headD 0 = g.headD 0
      · simp [-List.headD_eq_head?_getD, h1]
      · rw [Bool.or_eq_true]
        refine .inr (List.all_eq_true.2 fun i hi => ?_)
        rw [(hcls.cls o ho).2] at hi
        obtain ⟨hit, he⟩ := List.mem_filter.1 hi
        have he : (lab xs i).equal (lab xs (o.headD 0)) := by simpa [-List.headD_eq_head?_getD] using he
        have h2 := h i (htl i hit).1
        have hneq : ¬ (lab xs i).equal (lab xs (g.headD 0)) := by
          intro h3
          have h4 : (lab xs (o.headD 0)).equal (lab xs (g.headD 0)) := he.sym.trans h3
          obtain ⟨a, ha, rfl⟩ := List.getElem_of_mem ho
          obtain ⟨b, hb, rfl⟩ := List.getElem_of_mem hg
          have hpw := List.pairwise_iff_getElem.1 hcls.inc
          rcases Nat.lt_trichotomy a b with h5 | h5 | h5
          · exact (hpw a b ha hb h5).2 h4
          · subst h5; exact h1 rfl
          · exact (hpw b a hb ha h5).2 h4.sym
        simpa [-List.headD_eq_head?_getD, (htl i hit).2, hgen, hneq] using h2
  -- the groups that are looked at
  have hamong : (amongL xs gs).Pairwise fun a b => a.headD 0 < b.headD 0 := by
    have : gs.Pairwise fun a b : List Nat => a.headD 0 < b.headD 0 := hcls.inc.imp fun h => h.1
    unfold amongL
    split
    · exact this
    · exact this.filter _
  obtain ⟨g0, am, ham⟩ := List.exists_cons_of_ne_nil (amongL_ne (xs := xs) hne2)
  have hsub : ∀ s ∈ g0 :: am, s ∈ gs := fun s hs => amongL_sub (xs := xs) (by rw [ham]; exact hs)
  rw [ham] at hamong
  have hpc := List.pairwise_cons.1 hamong
  have hd0 : ∀ i ∈ l, 0 ≤ (lab xs i).dk := fun i hi => (hd i hi).1
  have hlow : ∀ g ∈ gs, 0 ≤ lowL xs g ∧ lowL xs g ≤ 60 ∧ g.length ≤ 500 := fun g hg => by
    rw [← (hvl g hg).2, ← (hvl g hg).1]
    exact ⟨lowN_ge _ hd0, lowN_le _ _ _, Nat.le_trans (votesN_le _ _ _) hl⟩
  obtain ⟨b, hbe⟩ : ∃ b, b = am.foldl (fun b s => if betterG xs b s then s else b) g0 := ⟨_, rfl⟩
  have hch := bestG_char (K := fun g => 1000 * (g.length : Int) + (100 - lowL xs g)) (H := fun g => g.headD 0) (P := betterG xs) am g0 (by
    intro b hb s hs
    have h1 := hlow b (hsub b hb)
    have h2 := hlow s (hsub s hs)
    unfold betterG
    simp only [Bool.or_eq_true, Bool.and_eq_true, decide_eq_true_eq]
    omega) hpc.1 hpc.2
  simp only [← hbe] at hch
  obtain ⟨hb1, hb2⟩ := hch
  have hchoose : chooseL xs l = b.headD 0 := by
    unfold chooseL
    rw [← hgs, ham, hbe]
    rfl
  have hbg := hsub b hb1
  have hbt := htl _ (hhead b hbg)
  -- all groups
  have hkey : ∀ g ∈ gs, keyR xs l (lab xs (g.headD 0)) = (if outG xs gs g then 1000000 else 0) + (1000 * (g.length : Int) + (100 - lowL xs g)) := fun g hg => by
    unfold keyR
    rw [← hout g hg, (hvl g hg).1, (hvl g hg).2]
    omega
  have hall : ∀ s ∈ gs, keyR xs l (lab xs (s.headD 0)) ≤ keyR xs l (lab xs (b.headD 0)) ∧ (s.headD 0 < b.headD 0 → keyR xs l (lab xs (s.headD 0)) < keyR xs l (lab xs (b.headD 0))) := by
    intro s hs
    rw [hkey s hs, hkey b hbg]
    have l1 := hlow s hs
    have l2 := hlow b hbg
    by_cases hfil : gs.filter (outG xs gs) = []
    · have hno : ∀ g ∈ gs, outG xs gs g = false := fun g hg => by
        have := List.filter_eq_nil_iff.1 hfil g hg
        simpa [-List.headD_eq_head?_getD] using this
      have h1 := hb2 s (by rw [← ham]; unfold amongL; rw [if_pos hfil]; exact hs)
      rw [hno s hs, hno b hbg]
      simp only [Bool.false_eq_true, if_false]
      exact ⟨by omega, fun h => by have := h1.2 h; omega⟩
    · have ham2 : g0 :: am = gs.filter (outG xs gs) := by rw [← ham]; unfold amongL; rw [if_neg hfil]
      have hbo : outG xs gs b = true := by
        rw [ham2] at hb1
        exact (List.mem_filter.1 hb1).2
      rw [hbo]
      cases hso : outG xs gs s with
      | true =>
        have h1 := hb2 s (by rw [ham2]; exact List.mem_filter.2 ⟨hs, hso⟩)
        simp only [if_true]
        exact ⟨by omega, fun h => by have := h1.2 h; omega⟩
      | false =>
        simp only [if_true, Bool.false_eq_true, if_false]
        exact ⟨by omega, fun _ => by omega⟩
  rw [hchoose]
  refine ⟨hbt.1, fun j hj => by rw [hbt.2]; exact newestL_ge hj, fun j hj hgj => ?_⟩
  have hjt : j ∈ top := by rw [htop]; exact List.mem_filter.2 ⟨hj, by simp [-List.headD_eq_head?_getD, hgj, hbt.2]⟩
  obtain ⟨s, hs, he⟩ := hcls.all j hjt
  have h1 := hall s hs
  rw [keyR_congr he]
  refine ⟨h1.1, fun hlt => ?_⟩
  -- the head is not behind j
  have hle : s.headD 0 ≤ j := by
    have hjs : j ∈ s := by rw [(hcls.cls s hs).2]; exact List.mem_filter.2 ⟨hjt, by simpa [-List.headD_eq_head?_getD] using he⟩
    have hsp : s.Pairwise (· < ·) := by rw [(hcl2 s hs).2]; exact hasc.filter _
    cases hse : s with
    | nil => rw [hse] at hjs; simp [-List.headD_eq_head?_getD] at hjs
    | cons x s' =>
      rw [hse] at hjs hsp
      rcases List.mem_cons.1 hjs with rfl | hjs
      · simp [-List.headD_eq_head?_getD]
      · have := (List.pairwise_cons.1 hsp).1 j hjs
        simp only [List.headD_cons]; omega
  exact h1.2 (by omega)

end Go.Proofs.Ytgpfjinkmagelaa
