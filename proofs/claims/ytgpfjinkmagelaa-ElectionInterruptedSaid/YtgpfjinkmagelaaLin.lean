/- A region in its written order, walked in one line: one lemma an operation; an operation behind a guard yields 'gv' of the guard, so that tests joined by || and && need no splitting. -/
import Derived.Test.YtgpfjinkmagelaaKit2
set_option linter.unusedVariables false
namespace Go.Proofs.Ytgpfjinkmagelaa
open Go Go.RowKit Go.Lib

/-- The value of an operation behind a guard. -/
def gv (c : Bool) (v : Value) : Value := if c then v else undef
theorem gv_true (v : Value) : gv true v = v := rfl
theorem gv_false (v : Value) : gv false v = undef := rfl
theorem gv_of {c : Bool} {v : Value} (h : c = true) : gv c v = v := by rw [h]; rfl

section
variable {P : Program} {ops : Array Oper} {Q : Exit → Act → World → Prop} {rest : List Oper} {o : Oper} {a a' : Act} {w w' : World} {v : Value}

theorem Lin.begin {id : Nat} {l : List Oper} (h : wpList P l.toArray Q l a w) : (Code.region id l.toArray false).wp P Q a w := wp_region_lit h
theorem Lin.done {K : Act → World → Prop} (h : K a w) : wpList P ops (Exit.then K Q) [] a w := h
theorem Lin.end (h : Q .normal a w) : wpList P ops Q [] a w := h

theorem Lin.wp_of_value {K : Act → World → Prop} (hv : (execOp a.eval o).run P w = .ok (.value v) w') (h : K (a.put o.dst v) w') : o.wp P a w K Q := by
  unfold Oper.wp
  rw [hv]
  exact h
theorem Lin.wp_of_skip {K : Act → World → Prop} (hv : (execOp a.eval o).run P w = .ok .skip w') (h : K (a.put o.dst undef) w') : o.wp P a w K Q := by
  unfold Oper.wp
  rw [hv]
  exact h
/-- An operation that yields a value. -/
theorem Lin.take (d : Nat) (hg : o.guard = none) (hd : o.dst = some d) (hv : (execOp a.eval o).run P w = .ok (.value v) w) (ha : a.put (some d) v = a')
    (h : wpList P ops Q rest a' w) : wpList P ops Q (o :: rest) a w :=
  wpList_plain hg fun K hK => Lin.wp_of_value hv (hK _ _ (by rw [hd, ha]; exact h))
/-- The same; the world behind it gets a name. -/
theorem Lin.takeW (d : Nat) (hg : o.guard = none) (hd : o.dst = some d) (hv : (execOp a.eval o).run P w = .ok (.value v) w') (ha : a.put (some d) v = a')
    (h : ∀ z, z = w' → wpList P ops Q rest a' z) : wpList P ops Q (o :: rest) a w :=
  wpList_plain hg fun K hK => Lin.wp_of_value hv (hK _ _ (by rw [hd, ha]; exact h _ rfl))
/-- An operation behind a guard: it yields a value where the guard lets it. -/
theorem Lin.may (d : Nat) (c : Bool) (hw : Region.wanted o (yielded ops a.tmps) = c) (hd : o.dst = some d) (hv : c = true → (execOp a.eval o).run P w = .ok (.value v) w)
    (ha : a.put (some d) (gv c v) = a') (h : wpList P ops Q rest a' w) : wpList P ops Q (o :: rest) a w := by
  refine wpList_step fun K hK => ?_
  rw [hw]
  cases c with
  | true => rw [if_pos rfl]; exact Lin.wp_of_value (hv rfl) (hK _ _ (by rw [hd, show v = gv true v from rfl, ha]; exact h))
  | false => rw [if_neg (by simp)]; exact hK _ _ (by rw [hd, show undef = gv false v from rfl, ha]; exact h)
/-- A call that returns v. -/
theorem Lin.enter (d : Nat) {f : FuncId} {args : Array Value} {S : World → Prop} (hg : o.guard = none) (hd : o.dst = some d) (hv : (execOp a.eval o).run P w = .ok (.enter f args) w)
    (hc : Calls P f args w fun e w' => e = .returned v ∧ S w') (ha : a.put (some d) v = a') (h : ∀ w', S w' → wpList P ops Q rest a' w') : wpList P ops Q (o :: rest) a w :=
  wpList_plain hg fun K hK => by
    unfold Oper.wp
    rw [hv, Oper.upon_enter]
    refine hc.mono ?_
    rintro e w' ⟨rfl, hS⟩
    exact hK _ _ (by rw [hd, ha]; exact h w' hS)
/-- A call that returns a slice. -/
theorem Lin.enterS (d : Nat) {f : FuncId} {args : Array Value} {R : Option Addr → Nat → Nat → World → Prop} (hg : o.guard = none) (hd : o.dst = some d) (hv : (execOp a.eval o).run P w = .ok (.enter f args) w)
    (hc : Calls P f args w fun e w' => ∃ a1 n1 c1, e = .returned (.slice a1 n1 c1) ∧ R a1 n1 c1 w') (h : ∀ a1 n1 c1 w', R a1 n1 c1 w' → ∀ a', a.put (some d) (.slice a1 n1 c1) = a' → wpList P ops Q rest a' w') : wpList P ops Q (o :: rest) a w :=
  wpList_plain hg fun K hK => by
    unfold Oper.wp
    rw [hv, Oper.upon_enter]
    refine hc.mono ?_
    rintro e w' ⟨a1, n1, c1, rfl, hR⟩
    exact hK _ _ (by rw [hd]; exact h a1 n1 c1 w' hR _ rfl)
/-- An operation that yields nothing (a store). -/
theorem Lin.store (hg : o.guard = none) (hv : (execOp a.eval o).run P w = .ok .skip w') (ha : a.put o.dst undef = a') (h : ∀ z, z = w' → wpList P ops Q rest a' z) : wpList P ops Q (o :: rest) a w :=
  wpList_plain hg fun K hK => Lin.wp_of_skip hv (hK _ _ (by rw [ha]; exact h _ rfl))
/-- A call behind a guard. -/
theorem Lin.mayEnter (d : Nat) (c : Bool) {f : FuncId} {args : Array Value} {S : World → Prop} (hw : Region.wanted o (yielded ops a.tmps) = c) (hd : o.dst = some d) (hv : c = true → (execOp a.eval o).run P w = .ok (.enter f args) w)
    (hc : c = true → Calls P f args w fun e w' => e = .returned v ∧ S w') (hS : c = false → S w) (ha : a.put (some d) (gv c v) = a') (h : ∀ w', S w' → wpList P ops Q rest a' w') : wpList P ops Q (o :: rest) a w := by
  refine wpList_step fun K hK => ?_
  rw [hw]
  cases c with
  | true =>
    rw [if_pos rfl]
    unfold Oper.wp
    rw [hv rfl, Oper.upon_enter]
    refine (hc rfl).mono ?_
    rintro e w' ⟨rfl, hS'⟩
    exact hK _ _ (by rw [hd, show v = gv true v from rfl, ha]; exact h w' hS')
  | false => rw [if_neg (by simp)]; exact hK _ _ (by rw [hd, show undef = gv false v from rfl, ha]; exact h w (hS rfl))
/-- 'b || x', x being behind a guard. -/
theorem Lin.or (d i j : Nat) {b x : Bool} (hg : o.guard = none) (hop : o.op = .pick (.tmp i) (.const (.bool true)) (.tmp j)) (hi : a.eval (.tmp i) = .bool b) (hj : a.eval (.tmp j) = gv (!b) (.bool x)) (hd : o.dst = some d)
    (h : ∀ B, B = (b || x) → ∀ a', a.put (some d) (.bool B) = a' → wpList P ops Q rest a' w) : wpList P ops Q (o :: rest) a w := by
  have hv : (execOp a.eval o).run P w = .ok (.value (.bool (b || x))) w := by
    unfold execOp
    rw [hop]
    simp only [hi, hj]
    cases b <;> cases x <;> rfl
  exact Lin.take d hg hd hv rfl (h _ rfl _ rfl)
/-- 'b && x', x being behind a guard. -/
theorem Lin.and (d i j : Nat) {b x : Bool} (hg : o.guard = none) (hop : o.op = .pick (.tmp i) (.tmp j) (.const (.bool false))) (hi : a.eval (.tmp i) = .bool b) (hj : a.eval (.tmp j) = gv b (.bool x)) (hd : o.dst = some d)
    (h : ∀ B, B = (b && x) → ∀ a', a.put (some d) (.bool B) = a' → wpList P ops Q rest a' w) : wpList P ops Q (o :: rest) a w := by
  have hv : (execOp a.eval o).run P w = .ok (.value (.bool (b && x))) w := by
    unfold execOp
    rw [hop]
    simp only [hi, hj]
    cases b <;> cases x <;> rfl
  exact Lin.take d hg hd hv rfl (h _ rfl _ rfl)
/-- A value gets a name. -/
theorem Lin.bool (d : Nat) {x : Bool} (hg : o.guard = none) (hd : o.dst = some d) (hv : (execOp a.eval o).run P w = .ok (.value (.bool x)) w)
    (h : ∀ B, B = x → ∀ a', a.put (some d) (.bool B) = a' → wpList P ops Q rest a' w) : wpList P ops Q (o :: rest) a w :=
  Lin.take d hg hd hv rfl (h _ rfl _ rfl)
/-- A whole struct or array is loaded (behind a guard or not). -/
theorem Lin.mid (d : Nat) (c : Bool) (ty : TypeId) (y : Operand) (b off : Nat) (cs : List Value) (D : TypeDesc) (hw : Region.wanted o (yielded ops a.tmps) = c) (hd : o.dst = some d) (ho : o.op = .load ty y)
    (hx : c = true → a.eval y = .pointer (some ⟨b, off, none⟩)) (hc : w.rangeAt b off cs) (hu : P.underlying ty = some D) (hD : D.isRow = true) (hn : (P.info? ty).map (·.size) = some cs.length)
    (ha : a.put (some d) (gv c (.agg cs.toArray)) = a') (h : wpList P ops Q rest a' w) : wpList P ops Q (o :: rest) a w :=
  Lin.may d c hw hd (fun hct => by
    unfold execOp
    simp only [ho, hx hct, Instr.loadAt, Instr.sureAddr, Sem.run_bind, Sem.run_pure, Result.andThen_ok, run_loadVar_mid w b off ty cs D hc hu hD hn]) ha h
end

end Go.Proofs.Ytgpfjinkmagelaa
