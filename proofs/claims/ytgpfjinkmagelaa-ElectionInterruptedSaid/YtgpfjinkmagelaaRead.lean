/- From the row's readings of the arguments to the words of the walks. -/
import Derived.Test.YtgpfjinkmagelaaKit2
import Derived.ProofKit
import Derived.OpenShut
import Derived.Deep.Slices
set_option linter.unusedVariables false
namespace Go.Proofs.Ytgpfjinkmagelaa
open Go Go.ChangeShapes Go.WideShapes Go.ChangeAt Go.RowKit

section
variable {H : Type} {enc : TypeId × Value → H} {P : Program} {w : World} {fuel : Nat} {cs : List Value} {x : DataW H × List MemPlace}

theorem rd_int {t : TypeId} {k : IntKind} (ht : P.underlying t = some (.int k)) (h : DataW.trod enc P w 0 (fun _ => true) true fuel t cs = some x) : ∃ n, cs = [.int k n] ∧ (Lit.int k n).wf = true := by
  obtain ⟨n, h1, _, h3⟩ := DataW.trod_int ht h
  exact ⟨n, h1, h3⟩

theorem rd_bool {t : TypeId} (ht : P.underlying t = some .bool) (h : DataW.trod enc P w 0 (fun _ => true) true fuel t cs = some x) : ∃ b, cs = [.bool b] := by
  obtain ⟨b, h1, _⟩ := DataW.trod_bool ht h
  exact ⟨b, h1⟩

/-- A slice of whatever elements: it reads as a list of the elements' cells, each of which reads as its type says. -/
theorem rd_slice {t e es : TypeId} {Q : List Value → Prop} (ht : P.underlying t = some (.slice e)) (hes : P.cellsOf e = es) (hQ : ∀ fuel cs x, DataW.trod enc P w 0 (fun _ => true) true fuel e cs = some x → Q cs)
    (hone : ∀ cs, Q cs → cs.length = es ∧ ∀ u ∈ cs, u.oneCell' = true)
    (h : DataW.trod enc P w 0 (fun _ => true) true fuel t cs = some x) :
    ∃ (a : Option Addr) (n c : Nat) (L : List (List Value)), cs = [.slice a n c] ∧ L.length = n ∧ Sl w es a n c L.flatten ∧ ∀ cs' ∈ L, Q cs' := by
  rcases Deep.open_slice ht h with ⟨h0, _⟩ | ⟨a, len, cap, m, n, D, Pl, h0, _, hl, hm, hmm, _, hx⟩
  · exact ⟨none, 0, 0, [], h0, rfl, Sl.nilv _ _, fun _ h => (by cases h)⟩
  · rw [hes] at hx
    have hm2 : len ≤ m := by simp only [if_true] at hmm; omega
    obtain ⟨V, hV⟩ := Deep.choose_lt (α := List Value) (n := len) (p := fun i cs' => w.cells? 0 (a.add (i * es)) es = some cs' ∧ Q cs') (fun i hi => by
      obtain ⟨cs', h1, h2⟩ := hx i (by omega)
      exact ⟨cs', h1, hQ _ _ _ h2⟩)
    have hlen : ∀ (k : Nat), k ≤ len → (((List.range k).map V).flatten).length = k * es := by
      intro k
      induction k with
      | zero => intro _; simp
      | succ k ih =>
        intro hk
        rw [List.range_succ, List.map_append, List.flatten_append, List.length_append, ih (by omega)]
        have := (hone _ (hV k (by omega)).2).1
        simp [this, Nat.succ_mul]
    have hcell : ∀ (k : Nat), k ≤ len → ∀ j u, (((List.range k).map V).flatten)[j]? = some u → w.cell? (a.add j) = some u := by
      intro k
      induction k with
      | zero => intro _ j u hu; simp at hu
      | succ k ih =>
        intro hk j u hu
        rw [List.range_succ, List.map_append, List.flatten_append, List.getElem?_append] at hu
        rw [hlen k (by omega)] at hu
        split at hu
        · exact ih (by omega) j u hu
        · rename_i hj
          obtain ⟨h1, h2⟩ := hV k (by omega)
          have hu' : (V k)[j - k * es]? = some u := by simpa using hu
          obtain ⟨_, h4, h5⟩ := World.cells?_some h1
          have := (h5 (j - k * es) (by have := (List.getElem?_eq_some_iff.1 hu').1; omega)).trans hu'
          rw [show (a.add (k * es)).add (j - k * es) = a.add j from ?_] at this
          · exact this
          · unfold Addr.add
            split <;> split <;> split <;> simp_all <;> omega
    refine ⟨some a, len, cap, (List.range len).map V, h0, by simp, ⟨hlen len (Nat.le_refl _), hl, hm, fun hn => (by cases hn), fun ad had j u hu => ?_, fun u hu => ?_⟩, fun cs' hc => ?_⟩
    · obtain rfl := Option.some.inj had
      exact hcell len (Nat.le_refl _) j u hu
    · obtain ⟨l, hl1, hl2⟩ := List.mem_flatten.1 hu
      obtain ⟨i, hi, rfl⟩ := List.mem_map.1 hl1
      exact (hone _ (hV i (by simpa using hi)).2).2 u hl2
    · obtain ⟨i, hi, rfl⟩ := List.mem_map.1 hc
      exact (hV i (by simpa using hi)).2

theorem wf_u8 {n : Int} (h : (Lit.int .u8 n).wf = true) : 0 ≤ n ∧ n ≤ 255 := bounds_u8 h

/-- One byte's cell. -/
theorem byte_of {n : Int} (h : (Lit.int .u8 n).wf = true) : ∃ b : UInt8, n = (b.toNat : Int) := by
  obtain ⟨h0, h1⟩ := wf_u8 h
  exact ⟨UInt8.ofNat n.toNat, by simp only [UInt8.toNat_ofNat']; omega⟩

theorem flatten_one {L : List (List Value)} (h : ∀ cs ∈ L, ∃ b : UInt8, cs = [.int .u8 (b.toNat : Int)]) : ∃ l : List UInt8, L.flatten = bv l ∧ l.length = L.length := by
  induction L with
  | nil => exact ⟨[], rfl, rfl⟩
  | cons c L ih =>
    obtain ⟨l, h1, h2⟩ := ih (fun cs hcs => h cs (by simp [hcs]))
    obtain ⟨b, rfl⟩ := h c (by simp)
    exact ⟨b :: l, by simp [h1, bv], by simp [h2]⟩

/-- []byte. -/
theorem rd_bytes {t e : TypeId} (ht : P.underlying t = some (.slice e)) (he : P.underlying e = some (.int .u8)) (hc : P.cellsOf e = 1) (h : DataW.trod enc P w 0 (fun _ => true) true fuel t cs = some x) :
    ∃ (a : Option Addr) (n c : Nat) (l : List UInt8), cs = [.slice a n c] ∧ Sl w 1 a n c (bv l) := by
  obtain ⟨a, n, c, L, h1, h2, h3, h4⟩ := rd_slice (Q := fun cs => ∃ b : UInt8, cs = [.int .u8 (b.toNat : Int)]) ht hc (fun fuel cs x h => by
    obtain ⟨n, rfl, hw⟩ := rd_int he h
    obtain ⟨b, rfl⟩ := byte_of hw
    exact ⟨b, rfl⟩) (fun cs hcs => by
    obtain ⟨b, rfl⟩ := hcs
    exact ⟨rfl, by simp [Value.oneCell']⟩) h
  obtain ⟨l, hl, _⟩ := flatten_one h4
  rw [hl] at h3
  exact ⟨a, n, c, l, h1, h3⟩

theorem list2 {l : List Value} (h : l.length = 2) : ∃ a b, l = [a, b] := by
  match l, h with
  | [a, b], _ => exact ⟨a, b, rfl⟩

/-- [2]int. -/
theorem rd_int2 {t e : TypeId} (ht : P.underlying t = some (.array 2 e)) (he : P.underlying e = some (.int .i64)) (hc : P.cellsOf t = 2) (hce : P.cellsOf e = 1) (h : DataW.trod enc P w 0 (fun _ => true) true fuel t cs = some x) :
    ∃ a b, cs = [.int .i64 a, .int .i64 b] ∧ (Lit.int .i64 a).wf = true ∧ (Lit.int .i64 b).wf = true := by
  obtain ⟨xs, m, rfl, _, hl, hxs, hel⟩ := DataW.trod_array ht h
  obtain ⟨c0, c1, rfl⟩ := list2 (hl.trans hc)
  have h0 := hel 0 (by omega)
  have h1 := hel 1 (by omega)
  rw [hce] at h0 h1
  obtain ⟨x0, e0⟩ : ∃ x0, xs[0]? = some x0 := ⟨xs[0], by simp⟩
  obtain ⟨x1, e1⟩ : ∃ x1, xs[1]? = some x1 := ⟨xs[1], by simp⟩
  rw [e0] at h0
  rw [e1] at h1
  obtain ⟨a, ha, wa⟩ := rd_int he h0
  obtain ⟨b, hb, wb⟩ := rd_int he h1
  simp at ha hb
  subst ha hb
  exact ⟨a, b, rfl, wa, wb⟩

/-- The value of an array or a struct that came in. -/
theorem okWide_row {r : Reach} {base : Nat} {t : TypeId} {v : Value} {d : TypeDesc} (ht : P.underlying t = some d) (hd : d.isRow = true) (h : Value.okWide P w r base t v) : ∃ cs, v = .agg cs ∧ cs.size = P.cellsOf t := by
  simp only [Value.okWide, ht] at h
  cases d <;> simp [TypeDesc.isRow] at hd
  all_goals
    obtain ⟨cs, h1, h2, _⟩ := h
    exact ⟨cs, h1, h2⟩

end

end Go.Proofs.Ytgpfjinkmagelaa
