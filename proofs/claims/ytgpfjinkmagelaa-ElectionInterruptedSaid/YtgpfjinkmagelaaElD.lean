/- Elections: groups while they are gathered, the map of the groups' numbers, the groups in plain Lean. -/
import Derived.Test.YtgpfjinkmagelaaElC
import Derived.Test.YtgpfjinkmagelaaLin
import Derived.Maps.Own
import Derived.Maps.OwnOps
import Derived.Maps.Views
set_option linter.unusedVariables false
set_option linter.unusedSimpArgs false
namespace Go.Proofs.Ytgpfjinkmagelaa
open Go Go.RowKit Go.Lib

/-- Rows of different element types are different blocks. -/
theorem rows_apartI {w : World} {base base' n n' es es' : Nat} {e e' : TypeId} {v v' : Value} {xs xs' : List Value} (h : w.ownsRow base e es v n xs) (h' : w.ownsRow base' e' es' v' n' xs') (hne : e ≠ e') : v.ownBlock = none ∨ v.ownBlock ≠ v'.ownBlock := by
  rcases h.2 with ⟨rfl, _⟩ | ⟨g, cap, cur, rfl, _, hg, _⟩
  · exact .inl rfl
  · refine .inr fun hb => ?_
    rcases h'.2 with ⟨rfl, _⟩ | ⟨g', cap', cur', rfl, _, hg', _⟩
    · simp [Value.ownBlock] at hb
    · simp only [Value.ownBlock, Option.some.injEq] at hb
      subst hb
      rw [hg] at hg'
      simp only [Option.some.injEq, Obj.cells.injEq] at hg'
      exact hne hg'.2.1
/-- Rows that begin with different cells are different blocks. -/
theorem rows_apart_head {w : World} {base base' n n' : Nat} {e e' : TypeId} {v v' : Value} {xs xs' : List Value} {x y : Value} (h : w.ownsRow base e 1 v n xs) (h' : w.ownsRow base' e' 1 v' n' xs') (hx : xs[0]? = some x) (hy : xs'[0]? = some y) (hne : x ≠ y) : v.ownBlock ≠ v'.ownBlock := by
  rcases h.2 with ⟨rfl, hn⟩ | ⟨g, cap, cur, rfl, _, hg, _, _, _, ht⟩
  · have := h.1
    rw [hn, Nat.zero_mul] at this
    rw [List.eq_nil_of_length_eq_zero this] at hx
    simp at hx
  · rcases h'.2 with ⟨rfl, hn⟩ | ⟨g', cap', cur', rfl, _, hg', _, _, _, ht'⟩
    · have := h'.1
      rw [hn, Nat.zero_mul] at this
      rw [List.eq_nil_of_length_eq_zero this] at hy
      simp at hy
    · intro hb
      simp only [Value.ownBlock, Option.some.injEq] at hb
      subst hb
      rw [hg] at hg'
      simp only [Option.some.injEq, Obj.cells.injEq] at hg'
      obtain ⟨rfl, -, -⟩ := hg'
      rw [← ht, List.getElem?_take] at hx
      rw [← ht', List.getElem?_take] at hy
      split at hx <;> split at hy <;> simp_all

/-- Groups of numbers that are the call's own, one row each, in a row of the call's own. -/
structure GatI (w : World) (base : Nat) (v : Value) (gs : List (List Nat)) : Prop where
  ex : ∃ vs : List Value, w.ownsRow base 56 1 v gs.length vs ∧ ∀ (i : Nat) (g : List Nat), gs[i]? = some g → ∃ a1 n1 c1, vs[i]? = some (Value.slice a1 n1 c1) ∧ w.ownsRow base 3 1 (.slice a1 n1 c1) n1 (ic g) ∧ (g = [] → a1 = none)
theorem GatI.nil (w : World) (base : Nat) : GatI w base (.slice none 0 0) [] := ⟨[], World.ownsRow_nil _ _ _ _, fun i l h => by simp at h⟩
theorem GatI.below {w w' : World} {base : Nat} {v : Value} {gs : List (List Nat)} (h : GatI w base v gs) (hb : Below w.heap.size w w') : GatI w' base v gs := by
  obtain ⟨vs, h1, h2⟩ := h.ex
  refine ⟨vs, owns_belowI h1 hb, fun i l hl => ?_⟩
  obtain ⟨a1, n1, c1, h3, h4, h5⟩ := h2 i l hl
  exact ⟨a1, n1, c1, h3, owns_belowI h4 hb, h5⟩
theorem GatI.shape {w : World} {base : Nat} {v : Value} {gs : List (List Nat)} (h : GatI w base v gs) : ∃ a c, v = .slice a gs.length c := by
  obtain ⟨vs, h1, _⟩ := h.ex
  exact owns_shape h1
theorem GatI.len {w : World} {base n c : Nat} {a : Option Addr} {gs : List (List Nat)} (h : GatI w base (.slice a n c) gs) : n = gs.length := by
  obtain ⟨a', c', h'⟩ := h.shape
  simp only [Value.slice.injEq] at h'
  exact h'.2.1
theorem GatI.gis {w : World} {base n c : Nat} {a : Option Addr} {gs : List (List Nat)} (h : GatI w base (.slice a n c) gs) : Gis w a n c gs := by
  obtain ⟨vs, h1, h2⟩ := h.ex
  have hlen : vs.length = gs.length := by have := h1.1; omega
  have hone : ∀ u ∈ vs, u.oneCell' = true := by
    intro u hu
    obtain ⟨i, hi, rfl⟩ := List.getElem_of_mem hu
    obtain ⟨a1, n1, c1, h3, _⟩ := h2 i gs[i] (by rw [List.getElem?_eq_getElem (by omega)])
    rw [List.getElem?_eq_getElem hi] at h3
    rw [Option.some.inj h3]
    rfl
  obtain ⟨h4, h5⟩ := Sl.of_owns h1 hone
  refine ⟨vs, h5, hlen, fun i l hl => ?_⟩
  obtain ⟨a1, n1, c1, h6, h7, _⟩ := h2 i l hl
  exact ⟨a1, n1, c1, h6, (Sl.of_owns h7 (ic_one _)).2⟩
/-- A nil group more. -/
theorem GatI.pushNil {w w1 : World} {base : Nat} {v v' : Value} {gs : List (List Nat)} {tmp : Obj} {vs : List Value} (h1 : w.ownsRow base 56 1 v gs.length vs)
    (h2 : ∀ (i : Nat) (g : List Nat), gs[i]? = some g → ∃ a1 n1 c1, vs[i]? = some (Value.slice a1 n1 c1) ∧ w.ownsRow base 3 1 (.slice a1 n1 c1) n1 (ic g) ∧ (g = [] → a1 = none))
    (hown : w1.ownsRow base 56 1 v' (gs.length + 1) (vs ++ [.slice none 0 0])) (hg : (w.alloc tmp).grownBy w1 v.ownBlock) : GatI w1 base v' (gs ++ [[]]) := by
  have hlen : vs.length = gs.length := by have := h1.1; omega
  refine ⟨_, by simpa using hown, fun i m hm => ?_⟩
  by_cases hi : i < gs.length
  · rw [List.getElem?_append_left hi] at hm
    obtain ⟨a1, n1, c1, h3, h4, h5⟩ := h2 i m hm
    exact ⟨a1, n1, c1, by rw [List.getElem?_append_left (by omega)]; exact h3, World.ownsRow.kept (h4.alloc tmp) hg (rows_apartI h4 h1 (by decide)), h5⟩
  · have : i = gs.length := by
      have := (List.getElem?_eq_some_iff.1 hm).1
      simp at this
      omega
    subst this
    rw [List.getElem?_append_right (Nat.le_refl _), Nat.sub_self] at hm
    obtain rfl : [] = m := by simpa using hm
    exact ⟨none, 0, 0, by rw [← hlen, List.getElem?_append_right (Nat.le_refl _), Nat.sub_self]; rfl, World.ownsRow_nil _ _ _ _, fun _ => rfl⟩
/-- Where the k-th group's header lies. -/
theorem GatI.pick {w : World} {base n c : Nat} {a : Option Addr} {gs : List (List Nat)} (h : GatI w base (.slice a n c) gs) {k : Nat} (hk : k < gs.length) :
    ∃ A a1 n1 c1 vs, a = some ⟨A, 0, none⟩ ∧ base ≤ A ∧ A < w.heap.size ∧ w.ownsRow base 56 1 (.slice a n c) n vs ∧ vs[k]? = some (.slice a1 n1 c1) ∧ w.cell? ⟨A, k, none⟩ = some (.slice a1 n1 c1) ∧ w.ownsRow base 3 1 (.slice a1 n1 c1) n1 (ic gs[k]) ∧ (gs[k] = [] → a1 = none) := by
  have hn := h.len
  obtain ⟨vs, h1, h2⟩ := h.ex
  rcases h1.2 with ⟨h3, h4⟩ | ⟨g, cap, cur, h3, h4, h5, _⟩
  · omega
  · simp only [Value.slice.injEq] at h3
    obtain ⟨rfl, rfl, rfl⟩ := h3
    obtain ⟨a1, n1, c1, h6, h7⟩ := h2 k gs[k] (by rw [List.getElem?_eq_getElem hk])
    refine ⟨g, a1, n1, c1, vs, rfl, h4, (h1.lt g rfl).2, h1, h6, ?_, h7⟩
    rw [h1.cellAt k (by omega), h6]
/-- A number more in the k-th group. -/
theorem GatI.add {w w1 : World} {base n c A k n1 c1 : Nat} {a1 : Option Addr} {v' : Value} {gs : List (List Nat)} {j : Nat} {tmp : Obj} (h : GatI w base (.slice (some ⟨A, 0, none⟩) n c) gs) (hk : k < gs.length)
    (hcur : w.ownsRow base 3 1 (.slice a1 n1 c1) n1 (ic gs[k])) (hnil : gs[k] = [] → a1 = none) (hg : (w.alloc tmp).grownBy w1 (Value.slice a1 n1 c1).ownBlock)
    (hhead : ∀ i g, i ≠ k → gs[i]? = some g → g ≠ [] → gs[k] ≠ [] → g.head? ≠ gs[k].head?)
    {a2 : Option Addr} {c2 : Nat} (hv : v' = .slice a2 (n1 + 1) c2) (hown : w1.ownsRow base 3 1 v' (n1 + 1) (ic gs[k] ++ [.int .i64 (j : Int)])) :
    GatI (w1.setCell ⟨A, k, none⟩ v') base (.slice (some ⟨A, 0, none⟩) n c) (gs.set k (gs[k] ++ [j])) := by
  have hn := h.len
  obtain ⟨vs, h1, h2⟩ := h.ex
  subst hn
  have h1' : w1.ownsRow base 56 1 (.slice (some ⟨A, 0, none⟩) gs.length c) gs.length vs := World.ownsRow.kept (h1.alloc tmp) hg (rows_apartI h1 hcur (by decide))
  have h1s := h1'.stored k v'
  have hlen : vs.length = gs.length := by have := h1.1; omega
  refine ⟨_, by rw [List.length_set]; exact h1s.1, fun i g hi => ?_⟩
  by_cases hik : i = k
  · subst hik
    rw [List.getElem?_set_self hk] at hi
    obtain rfl := Option.some.inj hi
    refine ⟨a2, n1 + 1, c2, by rw [List.getElem?_set_self (by omega), hv], ?_, by simp⟩
    subst hv
    have hown' : w1.ownsRow base 3 1 (.slice a2 (n1 + 1) c2) (n1 + 1) (ic (gs[i] ++ [j])) := by simpa [ic] using hown
    exact hown'.kept h1s.2 (rows_apartI hown' h1' (by decide))
  · rw [List.getElem?_set_ne (Ne.symm hik)] at hi
    obtain ⟨a3, n3, c3, h3, h4, h4n⟩ := h2 i g hi
    refine ⟨a3, n3, c3, by rw [List.getElem?_set_ne (Ne.symm hik)]; exact h3, ?_, h4n⟩
    have h5 : w1.ownsRow base 3 1 (.slice a3 n3 c3) n3 (ic g) := by
      refine World.ownsRow.kept (h4.alloc tmp) hg ?_
      by_cases hgn : g = []
      · rw [h4n hgn]; exact .inl rfl
      · by_cases hkn : gs[k] = []
        · rw [hnil hkn]
          cases hb : (Value.slice a3 n3 c3).ownBlock with
          | none => exact .inl rfl
          | some q => exact .inr (by simp [Value.ownBlock])
        · have h7 := hhead i _ hik hi hgn hkn
          obtain ⟨y, ys, rfl⟩ := List.exists_cons_of_ne_nil hgn
          obtain ⟨x, xs, hx⟩ := List.exists_cons_of_ne_nil hkn
          refine .inr (rows_apart_head h4 hcur (x := .int .i64 (y : Int)) (y := .int .i64 (x : Int)) rfl (by rw [hx]; rfl) ?_)
          intro hxy
          rw [hx] at h7
          simp at hxy h7
          omega
    exact h5.kept h1s.2 (rows_apartI h5 h1' (by decide))

/-! ### the map of numbers -/
theorem keyedInt : Maps.Keyed Try.prog 3 := Maps.int_keyed Try.underlying3
theorem zeroInt (w : World) : (zeroValue 3).run Try.prog w = .ok (.int .i64 0) w := by kernel_rfl
theorem wf_nat {n : Nat} (h : n < 9223372036854775808) : (Lit.int .i64 (n : Int)).wf = true := by
  refine WalkArith.wf_i64 ?_
  omega
theorem keyInt {n : Nat} (h : n < 9223372036854775808) : keyOf Try.prog 3 (.int .i64 (n : Int)) = some (.int .i64 (n : Int)) := Maps.keyOf_int_mk Try.underlying3 (wf_nat h)
/-- Block b is a map of the call's own. -/
def Num (w : World) (b n : Nat) : Prop := ∃ D : DataW Unit, Maps.IsMap D ∧ w.ownsMap Try.prog 3 (plainElem Try.prog 3) b n D
/-- It tells k at key i. -/
def NumAt (w : World) (b n i k : Nat) : Prop := ∃ D : DataW Unit, Maps.IsMap D ∧ w.ownsMap Try.prog 3 (plainElem Try.prog 3) b n D ∧ D.atKey (.int .i64 (i : Int)) (.lit (.int .i64 0)) = .lit (.int .i64 (k : Int))
theorem Num.made (w : World) : Num (w.alloc (.map #[] 0)) w.heap.size 0 := ⟨.map [], Maps.isMap_empty, World.ownsMap_made _ _ _ _⟩
theorem Num.lt {w : World} {b n : Nat} (h : Num w b n) : b < w.heap.size := by obtain ⟨D, _, h⟩ := h; exact h.lt
theorem Num.kept {w w' : World} {b n : Nat} {row : Option Nat} (h : Num w b n) (hg : w.grownBy w' row) (hne : some b ≠ row) : Num w' b n := by
  obtain ⟨D, h0, h1⟩ := h
  exact ⟨D, h0, h1.kept hg hne⟩
theorem NumAt.num {w : World} {b n i k : Nat} (h : NumAt w b n i k) : Num w b n := by obtain ⟨D, h0, h1, _⟩ := h; exact ⟨D, h0, h1⟩
theorem NumAt.kept {w w' : World} {b n i k : Nat} {row : Option Nat} (h : NumAt w b n i k) (hg : w.grownBy w' row) (hne : some b ≠ row) : NumAt w' b n i k := by
  obtain ⟨D, h0, h1, h2⟩ := h
  exact ⟨D, h0, h1.kept hg hne, h2⟩
theorem NumAt.run {w : World} {b n i k : Nat} (h : NumAt w b n i k) (hi : i < 9223372036854775808) : (Instr.lookup 64 (.map (some b)) (.int .i64 (i : Int)) false).run Try.prog w = .ok (.int .i64 (k : Int)) w := by
  obtain ⟨D, _, h1, hat⟩ := h
  obtain ⟨c, h1, h2, _⟩ := h1.lookup_int keyedInt Try.underlying64 Try.underlying3 (zeroInt _) (keyInt hi)
  rw [hat] at h2
  simp only [DataW.lit.injEq, Lit.int.injEq, true_and] at h2
  rw [h1, h2]
/-- A row's block is no map. -/
theorem Num.apart {w : World} {b n base m es : Nat} {e : TypeId} {v : Value} {xs : List Value} (h : Num w b n) (h' : w.ownsRow base e es v m xs) : some b ≠ v.ownBlock := by
  obtain ⟨D, _, es, clock, h1, _⟩ := h
  rcases h'.2 with ⟨rfl, _⟩ | ⟨g, cap, cur, rfl, _, hg, _⟩
  · simp [Value.ownBlock]
  · simp only [Value.ownBlock]
    intro hb
    obtain rfl := Option.some.inj hb
    rw [hg] at h1
    simp at h1
theorem GatI.keptM {w w' : World} {base b n : Nat} {v : Value} {gs : List (List Nat)} (h : GatI w base v gs) (hm : Num w b n) (hg : w.grownBy w' (some b)) : GatI w' base v gs := by
  obtain ⟨vs, h1, h2⟩ := h.ex
  refine ⟨vs, h1.kept hg (.inr (Ne.symm (hm.apart h1))), fun i l hl => ?_⟩
  obtain ⟨a1, n1, c1, h3, h4, h5⟩ := h2 i l hl
  exact ⟨a1, n1, c1, h3, h4.kept hg (.inr (Ne.symm (hm.apart h4))), h5⟩
theorem grown_cell {w w' : World} {row : Option Nat} (hg : w.grownBy w' row) {b o : Nat} {v : Value} (hc : w.cell? ⟨b, o, none⟩ = some v) (hne : some b ≠ row) : w'.cell? ⟨b, o, none⟩ = some v :=
  (World.cell?_of_block (hg.block b (World.block_lt_of_cell? w _ hc) hne)).trans hc
/-- A call that returns one of some values. -/
theorem Lin.enterX {P : Program} {ops : Array Oper} {Q : Exit → Act → World → Prop} {rest : List Oper} {o : Oper} {a : Act} {w : World} {ι : Type} (f : ι → Value) (d : Nat) {fn : FuncId} {args : Array Value} {R : ι → World → Prop} (hg : o.guard = none) (hd : o.dst = some d) (hv : (execOp a.eval o).run P w = .ok (.enter fn args) w)
    (hc : Calls P fn args w fun e w' => ∃ r, e = .returned (f r) ∧ R r w') (h : ∀ r w', R r w' → ∀ a', a.put (some d) (f r) = a' → wpList P ops Q rest a' w') : wpList P ops Q (o :: rest) a w :=
  wpList_plain hg fun K hK => by
    unfold Oper.wp
    rw [hv, Oper.upon_enter]
    refine hc.mono ?_
    rintro e w' ⟨r, rfl, hR⟩
    exact hK _ _ (by rw [hd]; exact h r w' hR _ rfl)
theorem wpList_numPut (w : World) {ops : Array Oper} {rest : List Oper} {o : Oper} {a : Act} {Q : Exit → Act → World → Prop} (hg : o.guard = none) (m x v : Operand) (hop : o.op = Op.mapUpdate 64 m x v) (b n i k : Nat)
    (hm : a.eval m = .map (some b)) (hown : Num w b n) (hn : n ≤ 1000) (hx : a.eval x = .int .i64 (i : Int)) (hv : a.eval v = .int .i64 (k : Int)) (hi : i < 9223372036854775808) (hk : k < 9223372036854775808)
    (hK : ∀ w', NumAt w' b (n + 1) i k → w.grownBy w' (some b) → wpList Try.prog ops Q rest (a.put o.dst undef) w') : wpList Try.prog ops Q (o :: rest) a w := by
  obtain ⟨D, h0, h1⟩ := hown
  refine wpList_mapUpdate_own w hg m x v _ hop 3 3 keyedInt Try.underlying64 _ b n D hm h1 (by unfold maxLen; omega) _ _ _ hx hv (keyInt hi) _ [] (plainElem_int Try.underlying3 (wf_nat hk)) ?_
  intro w' h2 h3
  exact hK w' ⟨_, h0.put _ _, h2, Maps.atKey_put_same h0 (keyedInt.key (keyInt hi)) _ _⟩ h3

/-! ### the groups in plain Lean -/
def addSide (xs : List LL) (gs : List (List Nat)) (j : Nat) : List (List Nat) :=
  match gs.findIdx? (mates xs j) with
  | some k => gs.set k (gs.getD k [] ++ [j])
  | none => gs ++ [[j]]
def sidesOf (xs : List LL) (l : List Nat) : List (List Nat) := l.foldl (addSide xs) []
def newestL (xs : List LL) (l : List Nat) : Int := l.foldl (fun m i => max m (lab xs i).gen) 0
def topL (xs : List LL) (m : Int) (l : List Nat) : List Nat := l.filter fun i => decide ((lab xs i).gen = m)
def sidesL (xs : List LL) (l : List Nat) : List (List Nat) := sidesOf xs (topL xs (newestL xs l) l)
theorem newestL_take {xs : List LL} {l : List Nat} {i : Nat} (h : i < l.length) : newestL xs (l.take (i + 1)) = max (newestL xs (l.take i)) (lab xs l[i]).gen := by
  unfold newestL
  rw [List.take_succ_eq_append_getElem h, List.foldl_append]
  rfl
theorem topL_take {xs : List LL} {m : Int} {l : List Nat} {i : Nat} (h : i < l.length) : topL xs m (l.take (i + 1)) = topL xs m (l.take i) ++ (if (lab xs l[i]).gen = m then [l[i]] else []) := by
  unfold topL
  rw [List.take_succ_eq_append_getElem h, List.filter_append]
  congr 1
  by_cases hg : (lab xs l[i]).gen = m <;> simp [hg]
theorem sidesOf_add {xs : List LL} {l : List Nat} {j : Nat} : sidesOf xs (l ++ [j]) = addSide xs (sidesOf xs l) j := by
  unfold sidesOf
  rw [List.foldl_append]
  rfl
/-- The groups hold numbers of l; no two begin alike. -/
structure GsOk (xs : List LL) (l : List Nat) (gs : List (List Nat)) : Prop where
  mem : ∀ g ∈ gs, g ≠ [] ∧ ∀ i ∈ g, i ∈ l
  heads : ∀ (a b : Nat) (g h : List Nat), gs[a]? = some g → gs[b]? = some h → a ≠ b → g.head? ≠ h.head?
theorem GsOk.nil (xs : List LL) (l : List Nat) : GsOk xs l [] := ⟨by simp, by simp⟩
theorem GsOk.mono {xs : List LL} {l l' : List Nat} {gs : List (List Nat)} (h : GsOk xs l gs) (hs : ∀ i ∈ l, i ∈ l') : GsOk xs l' gs := ⟨fun g hg => ⟨(h.mem g hg).1, fun i hi => hs i ((h.mem g hg).2 i hi)⟩, h.heads⟩
theorem addSide_none {xs : List LL} {gs : List (List Nat)} {j : Nat} (h : ∀ g ∈ gs, mates xs j g = false) : addSide xs gs j = gs ++ [[j]] := by
  unfold addSide
  rw [List.findIdx?_eq_none_iff.2 (by simpa using h)]
theorem addSide_some {xs : List LL} {gs : List (List Nat)} {j k : Nat} (hk : k < gs.length) (h : mates xs j gs[k] = true) (h2 : ∀ k' (h : k' < k), mates xs j (gs[k']'(by omega)) = false) : addSide xs gs j = gs.set k (gs[k] ++ [j]) := by
  unfold addSide
  have : gs.findIdx? (mates xs j) = some k := by
    rw [List.findIdx?_eq_some_iff_getElem]
    exact ⟨hk, h, fun k' hk' => by simp [h2 k' hk']⟩
  rw [this]
  simp [List.getD, hk]
theorem GsOk.pushNew {xs : List LL} {l : List Nat} {gs : List (List Nat)} {j : Nat} (h : GsOk xs l gs) (hj : j ∉ l) : GsOk xs (l ++ [j]) (gs ++ [[j]]) := by
  have key : ∀ (a : Nat) (g : List Nat), gs[a]? = some g → g.head? ≠ some j := by
    intro a g hg hh
    have := h.mem g (List.mem_of_getElem? hg)
    exact hj (this.2 j (by cases g with | nil => simp at hh | cons y ys => simp at hh; simp [hh]))
  have get : ∀ (a : Nat) (g : List Nat), (gs ++ [[j]])[a]? = some g → gs[a]? = some g ∨ (a = gs.length ∧ g = [j]) := by
    intro a g hg
    by_cases ha : a < gs.length
    · rw [List.getElem?_append_left ha] at hg; exact .inl hg
    · have := (List.getElem?_eq_some_iff.1 hg).1
      have ha2 : a = gs.length := by simp at this; omega
      subst ha2
      rw [List.getElem?_append_right (Nat.le_refl _), Nat.sub_self] at hg
      exact .inr ⟨rfl, by simpa using hg.symm⟩
  refine ⟨fun g hg => ?_, fun a b g g' hg hg' hab => ?_⟩
  · rcases List.mem_append.1 hg with hg | hg
    · exact ⟨(h.mem g hg).1, fun i hi => List.mem_append_left _ ((h.mem g hg).2 i hi)⟩
    · obtain rfl := List.mem_singleton.1 hg
      simp
  · rcases get a g hg with h1 | ⟨h1, rfl⟩ <;> rcases get b g' hg' with h2 | ⟨h2, rfl⟩
    · exact h.heads a b g g' h1 h2 hab
    · simpa using key a g h1
    · simpa using (key b g' h2).symm
    · omega
theorem GsOk.pushIn {xs : List LL} {l : List Nat} {gs : List (List Nat)} {j k : Nat} (h : GsOk xs l gs) (hk : k < gs.length) : GsOk xs (l ++ [j]) (gs.set k (gs[k] ++ [j])) := by
  have hne := (h.mem gs[k] (List.getElem_mem hk)).1
  have get : ∀ (a : Nat) (g : List Nat), (gs.set k (gs[k] ++ [j]))[a]? = some g → ∃ g0, gs[a]? = some g0 ∧ g0.head? = g.head? := by
    intro a g hg
    by_cases ha : a = k
    · subst ha
      rw [List.getElem?_set_self hk] at hg
      refine ⟨gs[a], List.getElem?_eq_getElem hk, ?_⟩
      rw [← Option.some.inj hg]
      cases hgk : gs[a] with
      | nil => exact (hne hgk).elim
      | cons y ys => rfl
    · rw [List.getElem?_set_ne (Ne.symm ha)] at hg
      exact ⟨g, hg, rfl⟩
  refine ⟨fun g hg => ?_, fun a b g g' hg hg' hab => ?_⟩
  · rcases List.mem_or_eq_of_mem_set hg with hg | rfl
    · exact ⟨(h.mem g hg).1, fun i hi => List.mem_append_left _ ((h.mem g hg).2 i hi)⟩
    · refine ⟨by simp, fun i hi => ?_⟩
      rcases List.mem_append.1 hi with hi | hi
      · exact List.mem_append_left _ ((h.mem _ (List.getElem_mem hk)).2 i hi)
      · exact List.mem_append_right _ hi
  · obtain ⟨g0, h1, h2⟩ := get a g hg
    obtain ⟨g1, h3, h4⟩ := get b g' hg'
    rw [← h2, ← h4]
    exact h.heads a b g0 g1 h1 h3 hab

end Go.Proofs.Ytgpfjinkmagelaa
