/- Elections: a checkpoint that was interrupted while the labels were written, in plain Lean. -/
import Derived.Test.YtgpfjinkmagelaaElU
set_option linter.unusedVariables false
set_option linter.unusedSimpArgs false
namespace Go.Proofs.Ytgpfjinkmagelaa
open Go Go.RowKit Go.Lib

/-- Valid but for the disk. -/
def Lb.core (l : Lb) : Prop := l.cfg ∧ 1 ≤ l.gen ∧ l.gen < 4294967296 ∧ l.prev < l.gen ∧ (l.dead.length : Int) = l.cd ∧ l.dead.count true ≤ 3 ∧ 0 ≤ l.blob ∧ l.blob ≤ 1048576
theorem Lb.valid.core {l : Lb} (h : l.valid) : l.core := by
  obtain ⟨h1, h2, h3, h4, h5, h6, h7, h8, h9, h10, h11⟩ := h
  exact ⟨h1, h4, h5, h6, h7, h8, h10, h11⟩
theorem Lb.core.at {l : Lb} (h : l.core) {d : Nat} (hd : d < l.dead.length) (hf : l.dead[d] = false) : (l.at (d : Int)).valid := by
  obtain ⟨h1, h4, h5, h6, h7, h8, h10, h11⟩ := h
  refine ⟨h1, by simp [Lb.at], by simp only [Lb.at]; omega, h4, h5, h6, h7, h8, ?_, h10, h11⟩
  simp only [Lb.at, Int.toNat_natCast]
  rw [List.getElem?_eq_getElem hd, hf]
/-- The next generation's label. -/
def nextL (l : Lb) (dd : List Bool) (sum : Int) : Lb := { l with gen := l.gen + 1, prev := l.gen, sum := sum, root := sum / 2, dead := dd }
def intX (l nx : Lb) (ad : Option Addr) (nd c : Nat) (a2 : Option Addr) (n2 c2 : Nat) (dn : List Bool) (m : Nat) : List LL := (List.range m).map fun (d : Nat) => if dn.getD d false = true then ⟨nx.at (d : Int), a2, n2, c2⟩ else ⟨l.at (d : Int), ad, nd, c⟩
def intR (dd : List Bool) (m : Nat) : List Bool := (List.range m).map fun d => !dd.getD d false
def intA (dn dd : List Bool) (m : Nat) : Bool := (List.range m).any fun d => dn.getD d false && !dd.getD d false
theorem intX_length (l nx : Lb) (ad : Option Addr) (nd c : Nat) (a2 : Option Addr) (n2 c2 : Nat) (dn : List Bool) (m : Nat) : (intX l nx ad nd c a2 n2 c2 dn m).length = m := by simp [intX]
theorem intR_length (dd : List Bool) (m : Nat) : (intR dd m).length = m := by simp [intR]
theorem intX_succ (l nx : Lb) (ad : Option Addr) (nd c : Nat) (a2 : Option Addr) (n2 c2 : Nat) (dn : List Bool) (m : Nat) : intX l nx ad nd c a2 n2 c2 dn (m + 1) = intX l nx ad nd c a2 n2 c2 dn m ++ [if dn.getD m false = true then ⟨nx.at (m : Int), a2, n2, c2⟩ else ⟨l.at (m : Int), ad, nd, c⟩] := by simp [intX, List.range_succ]
theorem intR_succ (dd : List Bool) (m : Nat) : intR dd (m + 1) = intR dd m ++ [!dd.getD m false] := by simp [intR, List.range_succ]
theorem intA_succ (dn dd : List Bool) (m : Nat) : intA dn dd (m + 1) = (intA dn dd m || (dn.getD m false && !dd.getD m false)) := by
  unfold intA
  rw [List.range_succ, List.any_append]
  simp
theorem count_range (dd : List Bool) : (List.range dd.length).countP (fun d => dd.getD d false) = dd.count true := by
  induction dd with
  | nil => rfl
  | cons b dd ih =>
    rw [List.length_cons, List.range_succ_eq_map, List.countP_cons, List.countP_map, List.count_cons, ← ih]
    congr 1
    cases b <;> simp

theorem interrupted_law {l : Lb} (hv : l.valid) (hg : l.gen + 1 < 4294967296) {m : Nat} (hm : l.dead.length = m) {dd : List Bool} (hdl : dd.length = m) (hdd : ∀ d, d < m → l.dead.getD d false = true → dd.getD d false = true) (hn : dd.count true ≤ 3)
    (sum : Int) (ad : Option Addr) (nd c : Nat) (a2 : Option Addr) (n2 c2 : Nat) (dn : List Bool) :
    ∃ (x : Lb) (zs : List Int), electL (intX l (nextL l dd sum) ad nd c a2 n2 c2 dn m) (intR dd m) = (x, zs, 0) ∧ zs.length = m ∧ (∀ d (h : d < zs.length), zs[d] = if dd.getD d false = true then -1 else (d : Int)) ∧ (intA dn dd m = true → x.equal (nextL l dd sum)) ∧ (intA dn dd m = false → x.equal l) := by
  have hd := valid_dk hv
  obtain ⟨nx, hnx⟩ : ∃ nx, nx = nextL l dd sum := ⟨_, rfl⟩
  rw [← hnx]
  obtain ⟨xs, hxs⟩ : ∃ xs, xs = intX l nx ad nd c a2 n2 c2 dn m := ⟨_, rfl⟩
  obtain ⟨rd, hrd⟩ : ∃ rd, rd = intR dd m := ⟨_, rfl⟩
  have hlx : xs.length = m := by rw [hxs, intX_length]
  have hlr : rd.length = m := by rw [hrd, intR_length]
  have hlab : ∀ d, d < m → lab xs d = if dn.getD d false = true then nx.at (d : Int) else l.at (d : Int) := fun d hdm => by
    unfold lab
    subst hxs
    unfold intX
    rw [List.getElem?_map, List.getElem?_range hdm]
    simp only [Option.map_some, Option.getD_some]
    split <;> rfl
  have hlc := hv.core
  have hnc : nx.core := by
    subst hnx
    obtain ⟨h1, h4, h5, h6, h7, h8, h10, h11⟩ := hlc
    exact ⟨h1, (show 1 ≤ l.gen + 1 by omega), hg, (show l.gen < l.gen + 1 by omega), (show (dd.length : Int) = l.cd by omega), hn, h10, h11⟩
  have hnd : nx.dead = dd := by rw [hnx]; rfl
  have hok : ∀ d, d < m → okI xs rd d = !dd.getD d false := fun d hdm => by
    unfold okI
    have h1 : rd.getD d false = !dd.getD d false := by
      rw [hrd]
      unfold intR
      rw [List.getD_eq_getElem?_getD, List.getElem?_map, List.getElem?_range hdm]
      rfl
    rw [h1, hlab d hdm]
    cases hb : dd.getD d false with
    | true => rfl
    | false =>
      have h2 : dd[d]'(by omega) = false := by rw [List.getD_eq_getElem?_getD, List.getElem?_eq_getElem (by omega)] at hb; exact hb
      have h3 : l.dead[d]'(by omega) = false := by
        cases h4 : l.dead[d]'(by omega) with
        | false => rfl
        | true =>
          have := hdd d hdm (by rw [List.getD_eq_getElem?_getD, List.getElem?_eq_getElem (by omega), Option.getD_some, h4])
          rw [hb] at this
          cases this
      have h5 : (if dn.getD d false = true then nx.at (d : Int) else l.at (d : Int)).valid := by
        split
        · exact hnc.at (by rw [hnd]; omega) (by simp only [hnd]; exact h2)
        · exact hlc.at (by omega) h3
      rw [decide_eq_true h5]
      rfl
  have hneg : negs (idZ xs rd m) ≤ 3 := by
    rw [negs_idZ]
    have : (List.range m).countP (fun d => !okI xs rd d) = (List.range m).countP fun d => dd.getD d false := by
      refine List.countP_congr fun d hdm => ?_
      rw [hok d (List.mem_range.1 hdm)]
      simp
    rw [this, ← hdl, count_range]
    exact hn
  have hmem : ∀ j ∈ candL xs rd, j < m ∧ dd.getD j false = false := fun j hj => by
    have h1 := (candL_mem hj).1
    have h2 := (List.mem_filter.1 hj).2
    have hjm : j < m := by omega
    rw [hok j hjm] at h2
    exact ⟨hjm, by simpa using h2⟩
  have hcand : ∀ d, d < m → dd.getD d false = false → d ∈ candL xs rd := fun d hdm h => List.mem_filter.2 ⟨List.mem_range.2 (by omega), by rw [hok d hdm, h]; rfl⟩
  have hex : ∃ d, d < m ∧ dd.getD d false = false := by
    by_cases h : ∃ d, d < m ∧ dd.getD d false = false
    · exact h
    · have h1 : (List.range m).countP (fun d => dd.getD d false) = m := by
        have : ∀ d ∈ List.range m, dd.getD d false = true := fun d hdm => by
          have hdm := List.mem_range.1 hdm
          cases hb : dd.getD d false with
          | true => rfl
          | false => exact (h ⟨d, hdm, hb⟩).elim
        rw [List.countP_eq_length.2 this, List.length_range]
      rw [← hdl, count_range] at h1
      omega
  have fin : ∀ e : Lb, e.cd = (m : Int) → e.prev < e.gen → (∃ j ∈ candL xs rd, (lab xs j).equal e) → (∀ j ∈ candL xs rd, (lab xs j).equal e ∨ ((lab xs j).gen = e.prev ∧ (lab xs j).arr = e.arr ∧ (lab xs j).cfgSame e)) → (∀ j ∈ candL xs rd, inDead e.dead (j : Int) = false) →
      ∃ x : Lb, x.equal e ∧ electL xs rd = (x, idZ xs rd m, 0) := fun e e1 e2 e3 e4 e5 => by
    obtain ⟨x, h1, h2⟩ := uniform_elect (xs := xs) (rd := rd) (m := m) (by omega) hlx hlr (fun d hdm => by rw [hlab d hdm]; split <;> rfl) e1 e2 e3 e4 e5
    exact ⟨x, h1, by rw [h2, if_neg (by omega)]⟩
  have hz : ∀ d (h : d < (idZ xs rd m).length), (idZ xs rd m)[d] = if dd.getD d false = true then -1 else (d : Int) := fun d h => by
    rw [idZ_length] at h
    rw [idZ_get h, hok d h]
    cases dd.getD d false <;> rfl
  rw [← hxs, ← hrd]
  cases hA : intA dn dd m with
  | true =>
    obtain ⟨d0, hd0, hd1⟩ := List.any_eq_true.1 hA
    have hd0 := List.mem_range.1 hd0
    simp only [Bool.and_eq_true, Bool.not_eq_true'] at hd1
    obtain ⟨x, h1, h2⟩ := fin nx (by rw [hnx]; show l.cd = _; omega) (by rw [hnx]; show l.gen < l.gen + 1; omega) ⟨d0, hcand d0 hd0 hd1.2, by rw [hlab d0 hd0, if_pos hd1.1]; exact nx.at_equal _⟩ (fun j hj => by
      obtain ⟨hjm, hjd⟩ := hmem j hj
      rw [hlab j hjm]
      split
      · exact .inl (nx.at_equal _)
      · refine .inr ?_
        rw [hnx]
        exact ⟨rfl, rfl, by unfold Lb.cfgSame nextL Lb.at; simp⟩) (fun j hj => by
      obtain ⟨hjm, hjd⟩ := hmem j hj
      unfold inDead
      rw [hnd, Int.toNat_natCast]
      rw [List.getD_eq_getElem?_getD] at hjd
      cases hq : dd[j]? with
      | none => simp
      | some b => rw [hq] at hjd; simp at hjd; simp [hjd])
    exact ⟨x, _, h2, idZ_length _ _ _, hz, fun _ => h1, fun h => by cases h⟩
  | false =>
    obtain ⟨d0, hd0, hd1⟩ := hex
    have hno : ∀ j ∈ candL xs rd, dn.getD j false = false := fun j hj => by
      obtain ⟨hjm, hjd⟩ := hmem j hj
      cases hb : dn.getD j false with
      | false => rfl
      | true =>
        have := List.any_eq_false.1 hA j (List.mem_range.2 hjm)
        rw [hb, hjd] at this
        simp at this
    have heq : ∀ j ∈ candL xs rd, (lab xs j).equal l := fun j hj => by
      rw [hlab j (hmem j hj).1, hno j hj]
      exact l.at_equal _
    have hc0 := hcand d0 hd0 hd1
    obtain ⟨x, h1, h2⟩ := fin l (by omega) (by omega) ⟨d0, hc0, heq d0 hc0⟩ (fun j hj => .inl (heq j hj)) (fun j hj => by
      obtain ⟨hjm, hjd⟩ := hmem j hj
      unfold inDead
      rw [Int.toNat_natCast]
      cases hq : l.dead[j]? with
      | none => simp
      | some b =>
        cases b with
        | false => simp
        | true =>
          have := hdd j hjm (by rw [List.getD_eq_getElem?_getD, hq]; rfl)
          rw [hjd] at this
          cases this)
    exact ⟨x, _, h2, idZ_length _ _ _, hz, (fun h => by cases h), fun _ => h1⟩

end Go.Proofs.Ytgpfjinkmagelaa
