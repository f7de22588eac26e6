/- A region that draws its order, with operations behind guards: one line an operation, the guard's value being a named Bool (no splitting). -/
import Derived.Test.YtgpfjinkmagelaaSteps
import Derived.Test.YtgpfjinkmagelaaLin
set_option linter.unusedVariables false
namespace Go.Proofs.Ytgpfjinkmagelaa
open Go Go.RowKit Go.Lib

section
variable {P : Program} {ops : Array Oper} {Q : Exit → Act → World → Prop} {md : Region.Mode}

theorem Rest.may (i d : Nat) (c : Bool) {a' : Act} {oi : Oper} {v : Value} {fuel : Nat} {listed : Array Bool} {a : Act} {w : World} (hi : ops[i]? = some oi)
    (hs : Region.noSelect ops = true) (hf : Region.free md ops listed i = true) (hr : (Region.ready md ops listed).contains i = true)
    (hQ : ∀ v c a w, Q (.panic c) (a.put oi.dst v) w → Q (.panic c) a w) (hw : Region.wanted oi (yielded ops a.tmps) = c)
    (hd : oi.dst = some d) (hv : c = true → ∀ x, Below w.heap.size w x → (execOp a.eval oi).run P x = .ok (.value v) x) (ha : a.put (some d) (gv c v) = a')
    (h : Rest P md ops Q fuel (listed.setIfInBounds i true) a' w) : Rest P md ops Q (fuel + 1) listed a w := by
  cases c with
  | true => exact Rest.take i d hi hs hf hr (hQ v) hw hd (hv rfl) ha h
  | false => exact Rest.skip i d hi hs hf hr (hQ undef) hw hd ha h

theorem Rest.mayMid (i dd : Nat) (c : Bool) {a' : Act} {oi : Oper} {fuel : Nat} {listed : Array Bool} {a : Act} {w : World} (hi : ops[i]? = some oi)
    (hs : Region.noSelect ops = true) (hf : Region.free md ops listed i = true) (hr : (Region.ready md ops listed).contains i = true)
    (ty : TypeId) (y : Operand) (b o : Nat) (cs : List Value) (d : TypeDesc)
    (hQ : ∀ v c a w, Q (.panic c) (a.put oi.dst v) w → Q (.panic c) a w) (hw : Region.wanted oi (yielded ops a.tmps) = c)
    (ho : oi.op = .load ty y) (hx : c = true → a.eval y = .pointer (some ⟨b, o, none⟩)) (hS : ∀ x, Below w.heap.size w x → x.rangeAt b o cs)
    (hu : P.underlying ty = some d) (hd : d.isRow = true) (hn : (P.info? ty).map (·.size) = some cs.length) (hdd : oi.dst = some dd) (ha : a.put (some dd) (gv c (.agg cs.toArray)) = a')
    (h : Rest P md ops Q fuel (listed.setIfInBounds i true) a' w) : Rest P md ops Q (fuel + 1) listed a w := by
  cases c with
  | true => exact Rest.takeMid i dd hi hs hf hr ty y b o cs d (hQ _) hw ho (hx rfl) hS hu hd hn hdd ha h
  | false => exact Rest.skip i dd hi hs hf hr (hQ undef) hw hdd ha h

/-- A call behind a guard; nothing else may come up. -/
theorem Rest.mayCall (i d : Nat) (c : Bool) {a' : Act} {oi : Oper} {v : Value} {f : FuncId} {args : Array Value} {fuel : Nat} {listed : Array Bool} {a : Act} {w : World} (hi : ops[i]? = some oi) (hr : Region.ready md ops listed = [i])
    (hw : Region.wanted oi (yielded ops a.tmps) = c) (hd : oi.dst = some d) (hv : c = true → (execOp a.eval oi).run P w = .ok (.enter f args) w)
    (hc : c = true → Calls P f args w fun e w' => e = .returned v ∧ Below w.heap.size w w') (ha : a.put (some d) (gv c v) = a')
    (h : ∀ w', Below w.heap.size w w' → Rest P md ops Q fuel (listed.setIfInBounds i true) a' w') : Rest P md ops Q (fuel + 1) listed a w :=
  wpAnyH_all hr (by simp) fun j hj => by
    rw [List.mem_singleton] at hj
    subst hj
    refine wpOp_step hi fun K' hK => ?_
    rw [hw]
    have fin : ∀ w', Below w.heap.size w w' → K' a' w' := fun w' hb => hK _ _ ⟨hb, held_imp (fun x hx => hb.trans (hx.mono hb.size)) _ _ _ _ (h w' hb)⟩
    cases c with
    | true =>
      rw [if_pos rfl]
      unfold Oper.wp
      rw [hv rfl, Oper.upon_enter]
      refine (hc rfl).mono ?_
      rintro e w' ⟨rfl, hb⟩
      show K' (a.put oi.dst v) w'
      rw [hd, show v = gv true v from rfl, ha]
      exact fin w' hb
    | false =>
      rw [if_neg (by simp), hd, show undef = gv false v from rfl, ha]
      exact fin w (Below.refl _ _)

/-- A value gets a name. -/
theorem Rest.bool (i d : Nat) {x : Bool} {oi : Oper} {fuel : Nat} {listed : Array Bool} {a : Act} {w : World} (hi : ops[i]? = some oi)
    (hs : Region.noSelect ops = true) (hf : Region.free md ops listed i = true) (hr : (Region.ready md ops listed).contains i = true)
    (hQ : ∀ c a w, Q (.panic c) (a.put oi.dst (.bool x)) w → Q (.panic c) a w) (hw : Region.wanted oi (yielded ops a.tmps) = true)
    (hd : oi.dst = some d) (hv : ∀ z, Below w.heap.size w z → (execOp a.eval oi).run P z = .ok (.value (.bool x)) z)
    (h : ∀ B, B = x → ∀ a', a.put (some d) (.bool B) = a' → Rest P md ops Q fuel (listed.setIfInBounds i true) a' w) : Rest P md ops Q (fuel + 1) listed a w :=
  Rest.take i d hi hs hf hr hQ hw hd hv rfl (h _ rfl _ rfl)

/-- 'b && x', x being behind a guard. -/
theorem Rest.and (i d j k : Nat) {b x : Bool} {oi : Oper} {fuel : Nat} {listed : Array Bool} {a : Act} {w : World} (hi : ops[i]? = some oi)
    (hs : Region.noSelect ops = true) (hf : Region.free md ops listed i = true) (hr : (Region.ready md ops listed).contains i = true)
    (hQ : ∀ v c a w, Q (.panic c) (a.put oi.dst v) w → Q (.panic c) a w) (hg : Region.wanted oi (yielded ops a.tmps) = true) (hop : oi.op = .pick (.tmp j) (.tmp k) (.const (.bool false)))
    (hj : a.eval (.tmp j) = .bool b) (hk : a.eval (.tmp k) = gv b (.bool x)) (hd : oi.dst = some d)
    (h : ∀ B, B = (b && x) → ∀ a', a.put (some d) (.bool B) = a' → Rest P md ops Q fuel (listed.setIfInBounds i true) a' w) : Rest P md ops Q (fuel + 1) listed a w := by
  refine Rest.take i d (v := .bool (b && x)) hi hs hf hr (hQ _) hg hd (fun z _ => ?_) rfl (h _ rfl _ rfl)
  unfold execOp
  rw [hop]
  simp only [hj, hk]
  cases b <;> cases x <;> rfl
end

end Go.Proofs.Ytgpfjinkmagelaa
