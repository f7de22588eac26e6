/- Elections: slices of labels, of numbers; small laws. -/
import Derived.Test.YtgpfjinkmagelaaLblE
import Derived.Test.YtgpfjinkmagelaaLblR
import Derived.Test.YtgpfjinkmagelaaSteps
set_option linter.unusedVariables false
set_option linter.unusedSimpArgs false
namespace Go.Proofs.Ytgpfjinkmagelaa
open Go Go.RowKit Go.Lib

theorem rangeAt_below {w w' : World} {b o B : Nat} {cs : List Value} (h : w.rangeAt b o cs) (hb : Below B w w') (hlt : b < B) : w'.rangeAt b o cs := fun j v hv => below_cell hb hlt (h j v hv)
theorem rangeAt_new (w : World) (cs : Array Value) (T : TypeId) : (w.alloc (.cells cs T)).rangeAt w.heap.size 0 cs.toList := by
  intro j v hv
  rw [Nat.zero_add, cell_of_row _ _ _ _ _ _ (heap_alloc_new w _)]
  simpa using hv
theorem bsc {B : Nat} {w0 w : World} (h : Below B w0 w) {b : Nat} (hb : B ≤ b) : ∀ (o : Nat) (vs : List Value), Below B w0 (w.setCells b o vs)
  | _, [] => h
  | o, v :: r => bsc (h.setCell (p := ⟨b, o, none⟩) hb v) hb (o + 1) r
theorem there_of_block {z : World} {b : Nat} {cs : Array Value} {T : TypeId} (h : z.heap[b]? = some (.cells cs T (0, 0))) : z.there b 0 cs.size := by
  intro j hj
  rw [Nat.zero_add]
  refine ⟨?_, ?_⟩
  · rw [cell_of_row z b j cs T _ h, Array.getElem?_eq_getElem hj]; rfl
  · unfold World.frozen?
    rw [h]
    simp

/-- A label with the header of its Dead. -/
structure LL where
  l : Lb
  ad : Option Addr
  nd : Nat
  c : Nat
def LL.arr (x : LL) : Array Value := x.l.arrv x.ad x.nd x.c
theorem LL.arr_length (x : LL) : x.arr.toList.length = 19 := rfl
theorem LL.arr_one (x : LL) : ∀ u ∈ x.arr.toList, u.oneCell' = true := by
  intro u hu
  simp [LL.arr, Lb.arrv] at hu
  rcases hu with rfl | rfl | rfl | rfl | rfl | rfl | rfl | rfl | rfl | rfl | rfl | rfl | rfl | rfl | rfl | rfl | rfl | rfl | rfl <;> rfl
/-- The cells of labels, one behind the other. -/
def lcs (xs : List LL) : List Value := xs.flatMap fun x => x.arr.toList
theorem lcs_length (xs : List LL) : (lcs xs).length = xs.length * 19 := by
  induction xs with
  | nil => rfl
  | cons x xs ih =>
    unfold lcs at *
    rw [List.flatMap_cons, List.length_append, ih, LL.arr_length, List.length_cons]
    omega
theorem lcs_get {xs : List LL} {i j : Nat} (hi : i < xs.length) (hj : j < 19) : (lcs xs)[i * 19 + j]? = xs[i].arr.toList[j]? := by
  induction xs generalizing i with
  | nil => simp at hi
  | cons x xs ih =>
    unfold lcs at *
    rw [List.flatMap_cons]
    cases i with
    | zero => rw [List.getElem?_append_left (by rw [LL.arr_length]; omega)]; simp
    | succ i =>
      rw [List.getElem?_append_right (by rw [LL.arr_length]; omega), LL.arr_length, show (i + 1) * 19 + j - 19 = i * 19 + j by omega]
      simpa using ih (i := i) (by simpa using hi)

/-- The slice value reads as these labels. -/
structure Lbs (w : World) (a : Option Addr) (n c : Nat) (xs : List LL) : Prop where
  sl : Sl w 19 a n c (lcs xs)
  dead : ∀ x ∈ xs, Sl w 1 x.ad x.nd x.c (bb x.l.dead)
theorem Lbs.below {w w' : World} {a : Option Addr} {n c : Nat} {xs : List LL} (h : Lbs w a n c xs) (hb : Below w.heap.size w w') : Lbs w' a n c xs :=
  ⟨h.sl.below hb, fun x hx => (h.dead x hx).below hb⟩
theorem Lbs.len {w : World} {a : Option Addr} {n c : Nat} {xs : List LL} (h : Lbs w a n c xs) : xs.length = n := by
  have := h.sl.len
  rw [lcs_length] at this
  omega
/-- Where the i-th label lies. -/
theorem Lbs.at {w : World} {a : Option Addr} {n c : Nat} {xs : List LL} (h : Lbs w a n c xs) {i : Nat} (hi : i < xs.length) : ∃ b off, a = some ⟨b, off, none⟩ ∧ b < w.heap.size ∧ w.rangeAt b (off + i * 19) xs[i].arr.toList := by
  obtain ⟨b, off, ha, hc⟩ := h.sl.at (k := i * 19) (by rw [lcs_length]; omega)
  have hget : ∀ j, j < 19 → w.cell? ⟨b, off + i * 19 + j, none⟩ = xs[i].arr.toList[j]? := by
    intro j hj
    have hlt : i * 19 + j < (lcs xs).length := by rw [lcs_length]; omega
    have := hc (i * 19 + j) hlt
    rw [Nat.add_assoc, this, ← lcs_get hi hj, List.getElem?_eq_getElem hlt]
  refine ⟨b, off, ha, ?_, ?_⟩
  · have := hget 0 (by omega)
    exact World.block_lt_of_cell? w (⟨b, off + i * 19 + 0, none⟩ : Addr) (this.trans (List.getElem?_eq_getElem (by rw [LL.arr_length]; omega)))
  · intro j v hv
    have hj : j < 19 := by
      have := (List.getElem?_eq_some_iff.1 hv).1
      rwa [LL.arr_length] at this
    exact (hget j hj).trans hv

/-- Numbers as cells. -/
def ic (ns : List Nat) : List Value := ns.map fun (n : Nat) => Value.int .i64 (n : Int)
theorem ic_length (ns : List Nat) : (ic ns).length = ns.length := by simp [ic]
theorem ic_one (ns : List Nat) : ∀ u ∈ ic ns, u.oneCell' = true := by
  intro u hu
  obtain ⟨_, _, rfl⟩ := List.mem_map.1 hu
  rfl
def zc (ns : List Int) : List Value := ns.map fun (n : Int) => Value.int .i64 n
theorem zc_length (ns : List Int) : (zc ns).length = ns.length := by simp [zc]
theorem zc_one (ns : List Int) : ∀ u ∈ zc ns, u.oneCell' = true := by
  intro u hu
  obtain ⟨_, _, rfl⟩ := List.mem_map.1 hu
  rfl

theorem info_int : (Try.prog.info? 3).map (fun i => (i.zero, i.size, i.bytes)) = some (some (.int .i64 0), 1, 8) := by kernel_rfl
/-- append to a row of ints of the call's own. -/
theorem wpList_appendI (w : World) {ops : Array Oper} {rest : List Oper} {o : Oper} {a : Act} {Q : Exit → Act → World → Prop} (hgd : o.guard = none) (s x : Operand) {t : TypeId} (ht : Try.prog.underlying t = some (.slice 3))
    (ho : o.op = .call { callee := .builtin .append, args := #[s, x], argTypes := #[t, t] })
    (base : Nat) (v : Value) (n : Nat) (xs : List Value) (hs : a.eval s = v) (hown : w.ownsRow base 3 1 v n xs)
    (ax : Option Addr) (m c : Nat) (news : List Value) (hx : a.eval x = .slice ax m c) (hsl : Sl w 1 ax m c news)
    (hb : n + m ≤ 1000000) (hbase : base ≤ w.heap.size)
    (h : ∀ a' c' w', w'.ownsRow base 3 1 (.slice a' (n + m) c') (n + m) (xs ++ news) → w.grownBy w' v.ownBlock → wpList Try.prog ops Q rest (a.put o.dst (.slice a' (n + m) c')) w') : wpList Try.prog ops Q (o :: rest) a w :=
  wpList_plain hgd fun K hK => by
    obtain ⟨i0, hi, hz0, hz1, hz2⟩ := info_parts info_int
    exact wp_append_sl w s x t ho base 3 i0 (.int .i64 0) 1 8 ht hi hz0 hz1 hz2 rfl (by decide) v n xs hs hown ax m c news hx hsl (by unfold maxLen; omega) (by omega) hbase (fun a' c' w' h1 h2 => hK _ _ (h a' c' w' h1 h2))

end Go.Proofs.Ytgpfjinkmagelaa
