/- Elections: lists in which the d-th label is disk d's, in plain Lean. -/
import Derived.Test.YtgpfjinkmagelaaElDead
set_option linter.unusedVariables false
set_option linter.unusedSimpArgs false
namespace Go.Proofs.Ytgpfjinkmagelaa
open Go Go.RowKit Go.Lib

theorem find_only {p : Nat → Bool} {d : Nat} : ∀ {l : List Nat}, d ∈ l → p d = true → (∀ i ∈ l, p i = true → i = d) → l.find? p = some d
  | [], h, _, _ => by simp at h
  | x :: l, h, hp, hu => by
    by_cases hx : p x = true
    · rw [List.find?_cons_of_pos hx, hu x (by simp) hx]
    · rw [List.find?_cons_of_neg hx]
      rcases List.mem_cons.1 h with rfl | h
      · exact (hx hp).elim
      · exact find_only h hp fun i hi => hu i (by simp [hi])
theorem equal_fields {a b : Lb} (h : a.equal b) : a.gen = b.gen ∧ a.prev = b.prev ∧ a.dead = b.dead ∧ a.cd = b.cd ∧ a.arr = b.arr := ⟨h.2.1, h.2.2.1, h.2.2.2.2.1, h.2.2.2.1.1, h.1⟩
theorem cfgSame_trans {a b c : Lb} (h : a.cfgSame b) (h' : c.equal b) : a.cfgSame c := by
  obtain ⟨c1, c2, c3, c4, c5, c6, c7, c8, c9, c10, c11⟩ := h
  obtain ⟨d1, d2, d3, d4, d5, d6, d7, d8, d9, d10, d11⟩ := h'.2.2.2.1
  exact ⟨c1.trans d1.symm, c2.trans d2.symm, c3.trans d3.symm, c4.trans d4.symm, c5.trans d5.symm, c6.trans d6.symm, c7.trans d7.symm, c8.trans d8.symm, c9.trans d9.symm, c10.trans d10.symm, c11.trans d11.symm⟩

/-- The places where each disk that may be in service is in service. -/
def idZ (xs : List LL) (rd : List Bool) (m : Nat) : List Int := (List.range m).map fun (d : Nat) => if okI xs rd d then (d : Int) else -1
theorem idZ_length (xs : List LL) (rd : List Bool) (m : Nat) : (idZ xs rd m).length = m := by simp [idZ]
theorem idZ_get {xs : List LL} {rd : List Bool} {m d : Nat} (h : d < m) : (idZ xs rd m)[d]'(by rw [idZ_length]; exact h) = if okI xs rd d then (d : Int) else -1 := by simp [idZ]
theorem negs_idZ (xs : List LL) (rd : List Bool) (m : Nat) : negs (idZ xs rd m) = (List.range m).countP fun d => !okI xs rd d := by
  unfold negs idZ
  rw [List.countP_map]
  congr 1
  funext d
  simp only [Function.comp]
  by_cases h : okI xs rd d = true
  · simp only [h, if_true]; simp
  · simp [h]

theorem uniform_elect {xs : List LL} {rd : List Bool} {m : Nat} (hm : m ≤ 500) (hx : xs.length = m) (hr : rd.length = m) (hdk : ∀ d, d < m → (lab xs d).dk = (d : Int)) {e : Lb} (hcd : e.cd = (m : Int)) (hpg : e.prev < e.gen)
    (hex : ∃ j ∈ candL xs rd, (lab xs j).equal e) (hall : ∀ j ∈ candL xs rd, (lab xs j).equal e ∨ ((lab xs j).gen = e.prev ∧ (lab xs j).arr = e.arr ∧ (lab xs j).cfgSame e))
    (hnd : ∀ j ∈ candL xs rd, inDead e.dead (j : Int) = false) :
    ∃ x : Lb, x.equal e ∧ electL xs rd = if 3 < negs (idZ xs rd m) then (lbz, [], 12) else (x, idZ xs rd m, 0) := by
  obtain ⟨j0, hj0, hje⟩ := hex
  have hne : candL xs rd ≠ [] := by intro h; rw [h] at hj0; simp at hj0
  have hv : ∀ i ∈ candL xs rd, (lab xs i).valid := fun i hi => (candL_mem hi).2
  have hch := chooseL_best (xs := xs) (l := candL xs rd) (candP_asc _ _ _) hne (fun i hi => (valid_dk (hv i hi)).2.2.2.2.2.1) (Nat.le_trans (candP_len _ _ _) (by omega)) (fun i hi => by have := valid_dk (hv i hi); omega)
  obtain ⟨b, hb⟩ : ∃ b, b = chooseL xs (candL xs rd) := ⟨_, rfl⟩
  rw [← hb] at hch
  have hbe : (lab xs b).equal e := by
    rcases hall b hch.mem with h | h
    · exact h
    · have h1 := hch.gen j0 hj0
      have h2 := hje.2.1
      omega
  obtain ⟨f1, f2, f3, f4, f5⟩ := equal_fields hbe
  refine ⟨lab xs b, hbe, ?_⟩
  refine electL_some (by omega) (by omega) hch (by rw [idZ_length, f4, hcd]; rfl) fun d hd => ?_
  have hdm : d < m := by omega
  rw [List.getD_eq_getElem?_getD, List.getElem?_eq_getElem (by rw [idZ_length]; exact hdm), Option.getD_some, idZ_get hdm]
  have hlt : ∀ i ∈ candL xs rd, i < m := fun i hi => by have := (candL_mem hi).1; omega
  have huniq : ∀ i ∈ candL xs rd, (lab xs i).dk = (d : Int) → i = d := fun i hi h => by
    rw [hdk i (hlt i hi)] at h
    omega
  by_cases hok : okI xs rd d = true
  · have hdc : d ∈ candL xs rd := List.mem_filter.2 ⟨List.mem_range.2 (by omega), hok⟩
    have hdd : inDead (lab xs b).dead (d : Int) = false := by rw [f3]; exact hnd d hdc
    rw [if_pos hok]
    unfold atD
    by_cases heq : (lab xs d).equal e
    · have : (candL xs rd).find? (eqP xs (lab xs b) (d : Int)) = some d := by
        refine find_only hdc ?_ fun i hi hp => ?_
        · unfold eqP
          simp [hdk d hdm, hdd, heq.trans hbe.sym]
        · unfold eqP at hp
          simp only [Bool.and_eq_true, decide_eq_true_eq] at hp
          exact huniq i hi hp.1.1
      rw [this]
      rfl
    · have h1 : (candL xs rd).find? (eqP xs (lab xs b) (d : Int)) = none := by
        refine List.find?_eq_none.2 fun i hi hp => ?_
        unfold eqP at hp
        simp only [Bool.and_eq_true, decide_eq_true_eq] at hp
        have := huniq i hi hp.1.1
        subst this
        exact heq (hp.2.trans hbe)
      have h2 : (candL xs rd).find? (pvP xs (lab xs b) (d : Int)) = some d := by
        obtain ⟨g1, g2, g3⟩ := (hall d hdc).resolve_left heq
        refine find_only hdc ?_ fun i hi hp => ?_
        · unfold pvP
          simp [hdk d hdm, hdd, g1, g2, f2, f5, cfgSame_trans g3 hbe]
        · unfold pvP at hp
          simp only [Bool.and_eq_true, decide_eq_true_eq] at hp
          exact huniq i hi hp.1.1.1.1
      rw [h1, h2]
      rfl
  · rw [if_neg hok]
    have hdc : d ∉ candL xs rd := fun h => hok (List.mem_filter.1 h).2
    have h1 : (candL xs rd).find? (eqP xs (lab xs b) (d : Int)) = none := by
      refine List.find?_eq_none.2 fun i hi hp => ?_
      unfold eqP at hp
      simp only [Bool.and_eq_true, decide_eq_true_eq] at hp
      have := huniq i hi hp.1.1
      subst this
      exact hdc hi
    have h2 : (candL xs rd).find? (pvP xs (lab xs b) (d : Int)) = none := by
      refine List.find?_eq_none.2 fun i hi hp => ?_
      unfold pvP at hp
      simp only [Bool.and_eq_true, decide_eq_true_eq] at hp
      have := huniq i hi hp.1.1.1.1
      subst this
      exact hdc hi
    unfold atD
    rw [h1, h2]
    rfl

/-! ### missing labels -/
def Lb.at (l : Lb) (d : Int) : Lb := { l with dk := d }
theorem Lb.at_equal (l : Lb) (d : Int) : (l.at d).equal l := by unfold Lb.equal Lb.cfgSame Lb.at; simp
theorem Lb.at_valid {l : Lb} (h : l.valid) {d : Nat} (hd : d < l.dead.length) : (l.at (d : Int)).valid ↔ l.dead[d] = false := by
  obtain ⟨h1, h2, h3, h4, h5, h6, h7, h8, h9, h10, h11⟩ := h
  constructor
  · intro hv
    have := hv.2.2.2.2.2.2.2.2.1
    simp only [Lb.at, Int.toNat_natCast] at this
    rw [List.getElem?_eq_getElem hd] at this
    exact Option.some.inj this
  · intro hdd
    refine ⟨h1, by simp [Lb.at], by simp only [Lb.at]; omega, h4, h5, h6, h7, h8, ?_, h10, h11⟩
    simp only [Lb.at, Int.toNat_natCast]
    rw [List.getElem?_eq_getElem hd, hdd]
def misX (l : Lb) (ad : Option Addr) (nd c m : Nat) : List LL := (List.range m).map fun (d : Nat) => ⟨l.at (d : Int), ad, nd, c⟩
def misR (ms : List Bool) (m : Nat) : List Bool := (List.range m).map fun d => !ms.getD d false
def misN (l : Lb) (ms : List Bool) (m : Nat) : Nat := (List.range m).countP fun d => ms.getD d false || l.dead.getD d false
theorem misX_length (l : Lb) (ad : Option Addr) (nd c m : Nat) : (misX l ad nd c m).length = m := by simp [misX]
theorem misX_get {l : Lb} {ad : Option Addr} {nd c m d : Nat} (h : d < m) : (misX l ad nd c m)[d]'(by rw [misX_length]; exact h) = ⟨l.at (d : Int), ad, nd, c⟩ := by simp [misX]
theorem misR_length (ms : List Bool) (m : Nat) : (misR ms m).length = m := by simp [misR]
theorem misX_succ (l : Lb) (ad : Option Addr) (nd c m : Nat) : misX l ad nd c (m + 1) = misX l ad nd c m ++ [⟨l.at (m : Int), ad, nd, c⟩] := by simp [misX, List.range_succ]
theorem misR_succ (ms : List Bool) (m : Nat) : misR ms (m + 1) = misR ms m ++ [!ms.getD m false] := by simp [misR, List.range_succ]
theorem misN_succ (l : Lb) (ms : List Bool) (m : Nat) : misN l ms (m + 1) = misN l ms m + if (ms.getD m false || l.dead.getD m false) = true then 1 else 0 := by
  unfold misN
  rw [List.range_succ, List.countP_append]
  congr 1
  by_cases h : (ms.getD m false || l.dead.getD m false) = true <;> simp [List.countP_cons, h]
theorem misN_le (l : Lb) (ms : List Bool) (m : Nat) : misN l ms m ≤ m := by
  have := List.countP_le_length (p := fun d => ms.getD d false || l.dead.getD d false) (l := List.range m)
  rwa [List.length_range] at this

theorem missing_law {l : Lb} (hv : l.valid) (ad : Option Addr) (nd c : Nat) (ms : List Bool) {m : Nat} (hm : l.dead.length = m) :
    (3 < misN l ms m → (electL (misX l ad nd c m) (misR ms m)).2.2 = 12 ∨ ((electL (misX l ad nd c m) (misR ms m)).2.2 = 9 ∧ misN l ms m = m)) ∧
    (¬ 3 < misN l ms m → (electL (misX l ad nd c m) (misR ms m)).2.2 = 0 ∧ (electL (misX l ad nd c m) (misR ms m)).1.equal l ∧ negs (electL (misX l ad nd c m) (misR ms m)).2.1 = misN l ms m) := by
  have hd := valid_dk hv
  obtain ⟨xs, hxs⟩ : ∃ xs, xs = misX l ad nd c m := ⟨_, rfl⟩
  obtain ⟨rd, hrd⟩ : ∃ rd, rd = misR ms m := ⟨_, rfl⟩
  have hlx : xs.length = m := by rw [hxs, misX_length]
  have hlr : rd.length = m := by rw [hrd, misR_length]
  have hlab : ∀ d, d < m → lab xs d = l.at (d : Int) := fun d hdm => by
    rw [lab_lt (by omega)]
    subst hxs
    rw [misX_get hdm]
  have hok : ∀ d, d < m → okI xs rd d = !(ms.getD d false || l.dead.getD d false) := fun d hdm => by
    unfold okI
    rw [hlab d hdm]
    have h1 : rd.getD d false = !ms.getD d false := by
      rw [hrd]
      unfold misR
      rw [List.getD_eq_getElem?_getD, List.getElem?_map, List.getElem?_range hdm]
      rfl
    have h2 : decide (l.at (d : Int)).valid = !l.dead.getD d false := by
      rw [List.getD_eq_getElem?_getD, List.getElem?_eq_getElem (by omega : d < l.dead.length), Option.getD_some]
      have := Lb.at_valid hv (d := d) (by omega)
      cases hb : l.dead[d] with
      | true => rw [decide_eq_false (by rw [this, hb]; simp)]; rfl
      | false => rw [decide_eq_true (by rw [this, hb])]; rfl
    rw [h1, h2, Bool.not_or]
  have hneg : negs (idZ xs rd m) = misN l ms m := by
    rw [negs_idZ]
    unfold misN
    refine List.countP_congr fun d hdm => ?_
    rw [hok d (List.mem_range.1 hdm)]
    simp
  rw [← hxs, ← hrd]
  by_cases hne : candL xs rd = []
  · have hn : misN l ms m = m := by
      unfold misN
      have : ∀ d ∈ List.range m, (ms.getD d false || l.dead.getD d false) = true := fun d hdm => by
        have hdm := List.mem_range.1 hdm
        cases hc : (ms.getD d false || l.dead.getD d false) with
        | true => rfl
        | false =>
          have h1 := hok d hdm
          rw [hc] at h1
          have : d ∈ candL xs rd := List.mem_filter.2 ⟨List.mem_range.2 (by omega), h1⟩
          rw [hne] at this
          simp at this
      rw [List.countP_eq_length.2 this, List.length_range]
    have he : electL xs rd = (lbz, [], 9) := by
      unfold electL
      rw [if_neg (by omega), if_pos hne]
    rw [he]
    exact ⟨fun _ => .inr ⟨rfl, hn⟩, fun h => by omega⟩
  · obtain ⟨j0, hj0⟩ := List.exists_mem_of_ne_nil _ hne
    have hmem : ∀ j ∈ candL xs rd, j < m ∧ (lab xs j).equal l := fun j hj => by
      have := (candL_mem hj).1
      have hjm : j < m := by omega
      exact ⟨hjm, by rw [hlab j hjm]; exact l.at_equal _⟩
    obtain ⟨x, hxe, hel⟩ := uniform_elect (xs := xs) (rd := rd) (m := m) (by omega) hlx hlr (fun d hdm => by rw [hlab d hdm]; rfl) (e := l) (by omega) (by omega) ⟨j0, hj0, (hmem j0 hj0).2⟩ (fun j hj => .inl (hmem j hj).2) (fun j hj => by
      have h1 := (candL_mem hj).2
      have hjm := (hmem j hj).1
      rw [hlab j hjm, Lb.at_valid hv (by omega)] at h1
      unfold inDead
      rw [Int.toNat_natCast, List.getElem?_eq_getElem (by omega : j < l.dead.length), h1]
      simp)
    rw [hneg] at hel
    rw [hel]
    refine ⟨fun h => ?_, fun h => ?_⟩
    · rw [if_pos h]; exact .inl rfl
    · rw [if_neg h]; exact ⟨rfl, hxe, hneg⟩

end Go.Proofs.Ytgpfjinkmagelaa
