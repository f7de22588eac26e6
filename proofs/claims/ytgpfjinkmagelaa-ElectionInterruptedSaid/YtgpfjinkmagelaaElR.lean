/- Elections: the places, in plain Lean: for each disk the first newest label, else the first of the generation before. -/
import Derived.Test.YtgpfjinkmagelaaElQ
set_option linter.unusedVariables false
set_option linter.unusedSimpArgs false
namespace Go.Proofs.Ytgpfjinkmagelaa
open Go Go.RowKit Go.Lib

def eqP (xs : List LL) (e : Lb) (d : Int) (i : Nat) : Bool := decide ((lab xs i).dk = d) && !inDead e.dead d && decide ((lab xs i).equal e)
def pvP (xs : List LL) (e : Lb) (d : Int) (i : Nat) : Bool := decide ((lab xs i).dk = d) && decide ((lab xs i).arr = e.arr) && decide ((lab xs i).cfgSame e) && !inDead e.dead d && decide ((lab xs i).gen = e.prev)
def oI : Option Nat → Int
  | some i => (i : Int)
  | none => -1
def atD (xs : List LL) (e : Lb) (l : List Nat) (d : Int) : Int := oI ((l.find? (eqP xs e d)).or (l.find? (pvP xs e d)))

theorem atL_app (xs : List LL) (e : Lb) (l : List Nat) (i : Nat) : atL xs e (l ++ [i]) = stepAt xs e (atL xs e l) i := by
  unfold atL
  rw [List.foldl_append]
  rfl
theorem atL_length (xs : List LL) (e : Lb) : ∀ (n : Nat) (l : List Nat), l.length = n → (atL xs e l).length = e.cd.toNat
  | 0, l, h => by rw [List.eq_nil_of_length_eq_zero h]; simp [atL]
  | n + 1, l, h => by
    have hne : l ≠ [] := by rintro rfl; simp at h
    have hl := List.dropLast_concat_getLast hne
    rw [← hl, atL_app, stepAt_length]
    exact atL_length xs e n _ (by rw [List.length_dropLast]; omega)
theorem find_app {p : Nat → Bool} (l : List Nat) (i : Nat) : (l ++ [i]).find? p = (l.find? p).or (if p i then some i else none) := by
  rw [List.find?_append]
  congr 1
  cases h : p i <;> simp [h]
theorem atD_app (xs : List LL) (e : Lb) (l : List Nat) (d : Int) (i : Nat) (he : eqP xs e d i = false) (hp : pvP xs e d i = false) : atD xs e (l ++ [i]) d = atD xs e l d := by
  unfold atD
  rw [find_app, find_app, he, hp]
  simp
theorem getD_set {zs : List Int} {k m : Nat} {v : Int} : (zs.set k v).getD m 0 = if k = m ∧ m < zs.length then v else zs.getD m 0 := by
  rw [List.getD_eq_getElem?_getD, List.getD_eq_getElem?_getD]
  by_cases h : k = m
  · subst h
    by_cases h2 : k < zs.length
    · rw [List.getElem?_set_self h2]; simp [h2]
    · rw [List.getElem?_eq_none (by rw [List.length_set]; omega), List.getElem?_eq_none (by omega)]; simp [h2]
  · rw [List.getElem?_set_ne h]; simp [h]

theorem atL_get {xs : List LL} {e : Lb} (hpg : e.prev < e.gen) : ∀ (n : Nat) (l : List Nat), l.length = n → (∀ i ∈ l, 0 ≤ (lab xs i).dk) → ∀ d : Nat, (d : Int) < e.cd → (atL xs e l).getD d 0 = atD xs e l d
  | 0, l, h, _, d, hd => by
    rw [List.eq_nil_of_length_eq_zero h]
    have : d < e.cd.toNat := by omega
    simp [atL, atD, oI, List.getD, List.getElem?_replicate, this]
  | n + 1, l, h, hdk, d, hd => by
    have hne : l ≠ [] := by rintro rfl; simp at h
    have hl := List.dropLast_concat_getLast hne
    have ihl := atL_length xs e n l.dropLast (by rw [List.length_dropLast]; omega)
    have ih := atL_get (xs := xs) hpg n l.dropLast (by rw [List.length_dropLast]; omega) (fun i hi => hdk i (List.dropLast_subset l hi))
    have h0 := hdk _ (List.getLast_mem hne)
    rw [← hl, atL_app]
    obtain ⟨i, hi⟩ : ∃ i, i = l.getLast hne := ⟨_, rfl⟩
    obtain ⟨p, hp⟩ : ∃ p, p = l.dropLast := ⟨_, rfl⟩
    rw [← hi, ← hp]
    rw [← hi] at h0
    rw [← hp] at ih ihl
    clear hi hp hl hne h hdk
    by_cases hdi : (lab xs i).dk = d
    · have hto : (lab xs i).dk.toNat = d := by omega
      unfold stepAt
      rw [hto, ih d hd]
      by_cases hq : qualL e (lab xs i) = true
      · rw [if_pos hq]
        unfold qualL at hq
        simp only [Bool.and_eq_true, Bool.or_eq_true, Bool.not_eq_true', decide_eq_true_eq] at hq
        obtain ⟨⟨⟨q1, q2⟩, q3⟩, q4⟩ := hq
        rw [hdi] at q3
        have fe : ∀ k, p.find? (eqP xs e d) = some k → (lab xs k).gen = e.gen := fun k hk => by
          have := List.find?_some hk
          unfold eqP at this
          simp only [Bool.and_eq_true, decide_eq_true_eq] at this
          exact this.2.2.1
        have fp : ∀ k, p.find? (pvP xs e d) = some k → (lab xs k).gen = e.prev := fun k hk => by
          have := List.find?_some hk
          unfold pvP at this
          simp only [Bool.and_eq_true, decide_eq_true_eq] at this
          exact this.2
        unfold atD
        rw [find_app, find_app]
        by_cases heq : (lab xs i).equal e
        · have h1 : eqP xs e d i = true := by simp [eqP, hdi, q3, heq]
          have hg : (lab xs i).gen = e.gen := heq.2.1
          rw [h1, if_pos rfl]
          cases hfe : p.find? (eqP xs e d) with
          | some k =>
            have := fe k hfe
            rw [if_neg (by simp [oI]; omega), ih d hd]
            unfold atD
            rw [hfe]
            simp
          | none =>
            rw [if_pos]
            · rw [getD_set, if_pos ⟨rfl, by rw [ihl]; omega⟩]; simp [oI]
            · cases hfp : p.find? (pvP xs e d) with
              | some k => have := fp k hfp; simp [oI]; omega
              | none => simp [oI]
        · have hg : (lab xs i).gen = e.prev := q4.resolve_left heq
          have h1 : eqP xs e d i = false := by simp [eqP, heq]
          have h2 : pvP xs e d i = true := by simp [pvP, hdi, q1, q2, q3, hg]
          rw [h1, h2, if_pos rfl]
          cases hfe : p.find? (eqP xs e d) with
          | some k =>
            have := fe k hfe
            rw [if_neg (by simp [oI]; omega), ih d hd]
            unfold atD
            rw [hfe]
            simp
          | none =>
            cases hfp : p.find? (pvP xs e d) with
            | some k =>
              have := fp k hfp
              rw [if_neg (by simp [oI]; omega), ih d hd]
              unfold atD
              rw [hfe, hfp]
              simp
            | none =>
              rw [if_pos (by simp [oI]), getD_set, if_pos ⟨rfl, by rw [ihl]; omega⟩]; simp [oI]
      · rw [if_neg hq, ih d hd]
        refine (atD_app xs e p d i ?_ ?_).symm
        · rw [Bool.eq_false_iff]
          intro hc
          unfold eqP at hc
          simp only [Bool.and_eq_true, decide_eq_true_eq, Bool.not_eq_true'] at hc
          apply hq
          unfold qualL
          simp [hc.2, hc.2.1, hc.2.2.2.2.1, hc.1.1, hc.1.2]
        · rw [Bool.eq_false_iff]
          intro hc
          unfold pvP at hc
          simp only [Bool.and_eq_true, decide_eq_true_eq, Bool.not_eq_true'] at hc
          apply hq
          unfold qualL
          simp [hc.1.1.1.1, hc.1.1.1.2, hc.1.1.2, hc.1.2, hc.2]
    · have hset : (stepAt xs e (atL xs e p) i).getD d 0 = (atL xs e p).getD d 0 := by
        unfold stepAt
        split
        · split
          · rw [getD_set, if_neg (by omega)]
          · rfl
        · rfl
      rw [hset, ih d hd]
      exact (atD_app xs e p d i (by simp [eqP, hdi]) (by simp [pvP, hdi])).symm

theorem atL_eq {xs : List LL} {e : Lb} (hpg : e.prev < e.gen) {l : List Nat} (hdk : ∀ i ∈ l, 0 ≤ (lab xs i).dk) {zs : List Int} (hl : zs.length = e.cd.toNat) (h : ∀ d : Nat, (d : Int) < e.cd → zs.getD d 0 = atD xs e l d) : zs = atL xs e l := by
  refine List.ext_getElem (by rw [hl, atL_length xs e _ l rfl]) fun d h1 h2 => ?_
  have hd : (d : Int) < e.cd := by omega
  have e1 := h d hd
  have e2 := atL_get hpg _ l rfl hdk d hd
  simp only [List.getD_eq_getElem?_getD, List.getElem?_eq_getElem h1, List.getElem?_eq_getElem h2, Option.getD_some] at e1 e2
  rw [e1, e2]

/-- The candidates among the first k labels. -/
def candP (xs : List LL) (rd : List Bool) (k : Nat) : List Nat := (List.range k).filter (okI xs rd)
theorem candP_succ (xs : List LL) (rd : List Bool) (k : Nat) : candP xs rd (k + 1) = candP xs rd k ++ (if okI xs rd k then [k] else []) := by
  unfold candP
  rw [List.range_succ, List.filter_append]
  congr 1
  cases h : okI xs rd k <;> simp [h]
theorem candP_lt {xs : List LL} {rd : List Bool} {k i : Nat} (h : i ∈ candP xs rd k) : i < k := List.mem_range.1 (List.mem_filter.1 h).1
theorem candP_ok {xs : List LL} {rd : List Bool} {k i : Nat} (h : i ∈ candP xs rd k) : (lab xs i).valid := by
  have := (List.mem_filter.1 h).2
  unfold okI at this
  simp only [Bool.and_eq_true, decide_eq_true_eq] at this
  exact this.2
theorem candL_P (xs : List LL) (rd : List Bool) : candL xs rd = candP xs rd xs.length := rfl
theorem candP_asc (xs : List LL) (rd : List Bool) (k : Nat) : (candP xs rd k).Pairwise (· < ·) := List.pairwise_lt_range.filter _
theorem candP_len (xs : List LL) (rd : List Bool) (k : Nat) : (candP xs rd k).length ≤ k := by
  have := List.length_filter_le (okI xs rd) (List.range k)
  rwa [List.length_range] at this

theorem valid_dk {l : Lb} (h : l.valid) : 0 ≤ l.dk ∧ l.dk < 60 ∧ l.dk < l.cd ∧ 4 ≤ l.cd ∧ l.cd ≤ 60 ∧ 1 ≤ l.gen ∧ l.gen < 4294967296 ∧ l.prev < l.gen ∧ (l.dead.length : Int) = l.cd := by
  obtain ⟨hc, h1, h2, h3, h4, h5, h6, _⟩ := h
  unfold Lb.cfg cfgOk at hc
  omega

/-- What is elected, from the first one with the greatest key and its places. -/
theorem electL_some {xs : List LL} {rd : List Bool} (hlen : xs.length = rd.length) (hn : xs.length ≤ 500) {b : Nat} (hb : Best xs (candL xs rd) (candL xs rd) b) {zs : List Int} (hl : zs.length = (lab xs b).cd.toNat)
    (hz : ∀ d : Nat, (d : Int) < (lab xs b).cd → zs.getD d 0 = atD xs (lab xs b) (candL xs rd) d) :
    electL xs rd = if 3 < negs zs then (lbz, [], 12) else (lab xs b, zs, 0) := by
  have hne : candL xs rd ≠ [] := by intro h; have := hb.mem; rw [h] at this; simp at this
  have hv : ∀ i ∈ candL xs rd, (lab xs i).valid := fun i hi => (candL_mem hi).2
  have hch := chooseL_best (xs := xs) (l := candL xs rd) (candP_asc _ _ _) hne (fun i hi => (valid_dk (hv i hi)).2.2.2.2.2.1) (Nat.le_trans (candP_len _ _ _) hn) (fun i hi => by have := valid_dk (hv i hi); omega)
  have he := hch.unique hb
  have hat := atL_eq (e := lab xs b) (l := candL xs rd) (by have := valid_dk (hv b hb.mem); omega) (fun i hi => (valid_dk (hv i hi)).1) hl hz
  unfold electL
  rw [if_neg (by simp [hlen]), if_neg hne, he, ← hat]

end Go.Proofs.Ytgpfjinkmagelaa
