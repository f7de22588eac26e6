/- A region that draws its order, walked in ONE line: what yields the same in every later world is taken first; 'later' is Below the world at hand, and moves on with it. -/
import Derived.Test.YtgpfjinkmagelaaKit2
import Derived.Deep.RegionHeld3
set_option linter.unusedVariables false
namespace Go.Proofs.Ytgpfjinkmagelaa
open Go Go.RowKit Go.Lib

section
variable {P : Program} {ops : Array Oper} {Q : Exit → Act → World → Prop} {md : Region.Mode}

theorem held_imp {S S' : World → Prop} (hS : ∀ x, S' x → S x) : ∀ (fuel : Nat) (listed : Array Bool) (a : Act) (w : World), wpAnyH P md ops Q S' fuel listed a w → wpAnyH P md ops Q S fuel listed a w
  | 0, _, _, _, h => h
  | fuel + 1, _, _, _, h => ⟨h.1, fun i hi => wpOp_mono (fun a' w' h' => ⟨hS _ h'.1, held_imp hS fuel _ a' w' h'.2⟩) (h.2 i hi)⟩

/-- The rest of a region from here on, each world behind an operation being a later one. -/
def Rest (P : Program) (md : Region.Mode) (ops : Array Oper) (Q : Exit → Act → World → Prop) (fuel : Nat) (listed : Array Bool) (a : Act) (w : World) : Prop :=
  wpAnyH P md ops Q (fun x => Below w.heap.size w x) fuel listed a w

theorem Rest.begin (n : Nat) {id : Nat} {a : Act} {w : World} (hm : P.follows .mixedOrders = true) (hn : ops.size = n)
    (h : Rest P .any ops Q n (Array.replicate n false) a w.drew) : (Code.region id ops true).wp P Q a w := by
  subst hn
  exact wp_region_held hm h

theorem Rest.take (i d : Nat) {a' : Act} {oi : Oper} {v : Value} {fuel : Nat} {listed : Array Bool} {a : Act} {w : World} (hi : ops[i]? = some oi)
    (hs : Region.noSelect ops = true) (hf : Region.free md ops listed i = true) (hr : (Region.ready md ops listed).contains i = true)
    (hQ : ∀ c a w, Q (.panic c) (a.put oi.dst v) w → Q (.panic c) a w) (hw : Region.wanted oi (yielded ops a.tmps) = true)
    (hd : oi.dst = some d) (hv : ∀ x, Below w.heap.size w x → (execOp a.eval oi).run P x = .ok (.value v) x) (ha : a.put (some d) v = a')
    (h : Rest P md ops Q fuel (listed.setIfInBounds i true) a' w) : Rest P md ops Q (fuel + 1) listed a w :=
  wpAnyH_take hi hs hf hr hQ (.inl ⟨hw, hv⟩) (Below.refl _ _) (by rw [hd, ha]; exact h)

/-- An operation that the guards leave out. -/
theorem Rest.skip (i d : Nat) {a' : Act} {oi : Oper} {fuel : Nat} {listed : Array Bool} {a : Act} {w : World} (hi : ops[i]? = some oi)
    (hs : Region.noSelect ops = true) (hf : Region.free md ops listed i = true) (hr : (Region.ready md ops listed).contains i = true)
    (hQ : ∀ c a w, Q (.panic c) (a.put oi.dst undef) w → Q (.panic c) a w) (hw : Region.wanted oi (yielded ops a.tmps) = false)
    (hd : oi.dst = some d) (ha : a.put (some d) undef = a')
    (h : Rest P md ops Q fuel (listed.setIfInBounds i true) a' w) : Rest P md ops Q (fuel + 1) listed a w :=
  wpAnyH_take hi hs hf hr hQ (.inr ⟨hw, rfl⟩) (Below.refl _ _) (by rw [hd, ha]; exact h)

theorem Rest.takeMid (i dd : Nat) {a' : Act} {oi : Oper} {fuel : Nat} {listed : Array Bool} {a : Act} {w : World} (hi : ops[i]? = some oi)
    (hs : Region.noSelect ops = true) (hf : Region.free md ops listed i = true) (hr : (Region.ready md ops listed).contains i = true)
    (ty : TypeId) (y : Operand) (b o : Nat) (cs : List Value) (d : TypeDesc)
    (hQ : ∀ c a w, Q (.panic c) (a.put oi.dst (.agg cs.toArray)) w → Q (.panic c) a w) (hw : Region.wanted oi (yielded ops a.tmps) = true)
    (ho : oi.op = .load ty y) (hx : a.eval y = .pointer (some ⟨b, o, none⟩)) (hS : ∀ x, Below w.heap.size w x → x.rangeAt b o cs)
    (hu : P.underlying ty = some d) (hd : d.isRow = true) (hn : (P.info? ty).map (·.size) = some cs.length) (hdd : oi.dst = some dd) (ha : a.put (some dd) (.agg cs.toArray) = a')
    (h : Rest P md ops Q fuel (listed.setIfInBounds i true) a' w) : Rest P md ops Q (fuel + 1) listed a w :=
  wpAnyH_take hi hs hf hr hQ (yieldsIf_load_mid hw ty y ho b o hx cs d hS hu hd hn) (Below.refl _ _) (by rw [hdd, ha]; exact h)

/-- A step that may change the world: nothing else may come up. -/
theorem Rest.step (i : Nat) {oi : Oper} {fuel : Nat} {listed : Array Bool} {a : Act} {w : World} (hi : ops[i]? = some oi) (hr : Region.ready md ops listed = [i])
    (hw : Region.wanted oi (yielded ops a.tmps) = true)
    (h : ∀ K' : Act → World → Prop, Shut (∀ a' w', Below w.heap.size w w' → Rest P md ops Q fuel (listed.setIfInBounds i true) a' w' → K' a' w') → Oper.wp P oi a w K' Q) :
    Rest P md ops Q (fuel + 1) listed a w :=
  wpAnyH_all hr (by simp) fun j hj => by
    rw [List.mem_singleton] at hj
    subst hj
    refine wpOp_step hi fun K' hK => ?_
    rw [if_pos hw]
    refine h K' fun a' w' hb hrest => hK _ _ ⟨hb, held_imp (fun x hx => hb.trans (hx.mono hb.size)) _ _ _ _ hrest⟩

/-- Two such steps may come up: both ways are walked. -/
theorem Rest.step2 (i j : Nat) {oi oj : Oper} {fuel : Nat} {listed : Array Bool} {a : Act} {w : World} (hi : ops[i]? = some oi) (hj : ops[j]? = some oj) (hr : Region.ready md ops listed = [i, j])
    (hwi : Region.wanted oi (yielded ops a.tmps) = true) (hwj : Region.wanted oj (yielded ops a.tmps) = true)
    (h1 : ∀ K' : Act → World → Prop, Shut (∀ a' w', Below w.heap.size w w' → Rest P md ops Q fuel (listed.setIfInBounds i true) a' w' → K' a' w') → Oper.wp P oi a w K' Q)
    (h2 : ∀ K' : Act → World → Prop, Shut (∀ a' w', Below w.heap.size w w' → Rest P md ops Q fuel (listed.setIfInBounds j true) a' w' → K' a' w') → Oper.wp P oj a w K' Q) :
    Rest P md ops Q (fuel + 1) listed a w :=
  wpAnyH_all hr (by simp) fun k hk => by
    rw [List.mem_cons, List.mem_singleton] at hk
    rcases hk with rfl | rfl
    · refine wpOp_step hi fun K' hK => ?_
      rw [if_pos hwi]
      refine h1 K' fun a' w' hb hrest => hK _ _ ⟨hb, held_imp (fun x hx => hb.trans (hx.mono hb.size)) _ _ _ _ hrest⟩
    · refine wpOp_step hj fun K' hK => ?_
      rw [if_pos hwj]
      refine h2 K' fun a' w' hb hrest => hK _ _ ⟨hb, held_imp (fun x hx => hb.trans (hx.mono hb.size)) _ _ _ _ hrest⟩

theorem Rest.done {listed : Array Bool} {a : Act} {w : World} {fuel : Nat} (hr : Region.ready md ops listed = []) (h : Q .normal a w) : Rest P md ops Q fuel listed a w := wpAnyH_done hr h fuel
end

/-! ### the same under one condition for the whole region -/
section
variable {P : Program} {ops : Array Oper} {Q : Exit → Act → World → Prop} {md : Region.Mode} {S : World → Prop}

theorem RestS.begin (S : World → Prop) (n : Nat) {id : Nat} {a : Act} {w : World} (hm : P.follows .mixedOrders = true) (hn : ops.size = n)
    (h : wpAnyH P .any ops Q S n (Array.replicate n false) a w.drew) : (Code.region id ops true).wp P Q a w := by
  subst hn
  exact wp_region_held hm h

theorem RestS.take (i d : Nat) {a' : Act} {oi : Oper} {v : Value} {fuel : Nat} {listed : Array Bool} {a : Act} {w : World} (hi : ops[i]? = some oi)
    (hs : Region.noSelect ops = true) (hf : Region.free md ops listed i = true) (hr : (Region.ready md ops listed).contains i = true)
    (hQ : ∀ c a w, Q (.panic c) (a.put oi.dst v) w → Q (.panic c) a w) (hw : Region.wanted oi (yielded ops a.tmps) = true)
    (hd : oi.dst = some d) (hv : ∀ x, S x → (execOp a.eval oi).run P x = .ok (.value v) x) (ha : a.put (some d) v = a') (hS : S w)
    (h : wpAnyH P md ops Q S fuel (listed.setIfInBounds i true) a' w) : wpAnyH P md ops Q S (fuel + 1) listed a w :=
  wpAnyH_take hi hs hf hr hQ (.inl ⟨hw, hv⟩) hS (by rw [hd, ha]; exact h)

theorem RestS.takeMid (i dd : Nat) {a' : Act} {oi : Oper} {fuel : Nat} {listed : Array Bool} {a : Act} {w : World} (hi : ops[i]? = some oi)
    (hs : Region.noSelect ops = true) (hf : Region.free md ops listed i = true) (hr : (Region.ready md ops listed).contains i = true)
    (ty : TypeId) (y : Operand) (b o : Nat) (cs : List Value) (d : TypeDesc)
    (hQ : ∀ c a w, Q (.panic c) (a.put oi.dst (.agg cs.toArray)) w → Q (.panic c) a w) (hw : Region.wanted oi (yielded ops a.tmps) = true)
    (ho : oi.op = .load ty y) (hx : a.eval y = .pointer (some ⟨b, o, none⟩)) (hSx : ∀ x, S x → x.rangeAt b o cs)
    (hu : P.underlying ty = some d) (hd : d.isRow = true) (hn : (P.info? ty).map (·.size) = some cs.length) (hdd : oi.dst = some dd) (ha : a.put (some dd) (.agg cs.toArray) = a') (hS : S w)
    (h : wpAnyH P md ops Q S fuel (listed.setIfInBounds i true) a' w) : wpAnyH P md ops Q S (fuel + 1) listed a w :=
  wpAnyH_take hi hs hf hr hQ (yieldsIf_load_mid hw ty y ho b o hx cs d hSx hu hd hn) hS (by rw [hdd, ha]; exact h)

theorem RestS.step (i : Nat) {oi : Oper} {fuel : Nat} {listed : Array Bool} {a : Act} {w : World} (hi : ops[i]? = some oi) (hr : Region.ready md ops listed = [i])
    (hw : Region.wanted oi (yielded ops a.tmps) = true)
    (h : ∀ K' : Act → World → Prop, Shut (∀ a' w', S w' → wpAnyH P md ops Q S fuel (listed.setIfInBounds i true) a' w' → K' a' w') → Oper.wp P oi a w K' Q) :
    wpAnyH P md ops Q S (fuel + 1) listed a w :=
  wpAnyH_all hr (by simp) fun j hj => by
    rw [List.mem_singleton] at hj
    subst hj
    refine wpOp_step hi fun K' hK => ?_
    rw [if_pos hw]
    exact h K' fun a' w' hb hrest => hK _ _ ⟨hb, hrest⟩
theorem RestS.step2 (i j : Nat) {oi oj : Oper} {fuel : Nat} {listed : Array Bool} {a : Act} {w : World} (hi : ops[i]? = some oi) (hj : ops[j]? = some oj) (hr : Region.ready md ops listed = [i, j])
    (hwi : Region.wanted oi (yielded ops a.tmps) = true) (hwj : Region.wanted oj (yielded ops a.tmps) = true)
    (h1 : ∀ K' : Act → World → Prop, Shut (∀ a' w', S w' → wpAnyH P md ops Q S fuel (listed.setIfInBounds i true) a' w' → K' a' w') → Oper.wp P oi a w K' Q)
    (h2 : ∀ K' : Act → World → Prop, Shut (∀ a' w', S w' → wpAnyH P md ops Q S fuel (listed.setIfInBounds j true) a' w' → K' a' w') → Oper.wp P oj a w K' Q) :
    wpAnyH P md ops Q S (fuel + 1) listed a w :=
  wpAnyH_all hr (by simp) fun k hk => by
    rw [List.mem_cons, List.mem_singleton] at hk
    rcases hk with rfl | rfl
    · refine wpOp_step hi fun K' hK => ?_
      rw [if_pos hwi]
      exact h1 K' fun a' w' hb hrest => hK _ _ ⟨hb, hrest⟩
    · refine wpOp_step hj fun K' hK => ?_
      rw [if_pos hwj]
      exact h2 K' fun a' w' hb hrest => hK _ _ ⟨hb, hrest⟩
end

/-- A world behind this one, and later ones. -/
theorem later {B : Nat} {w1 w x : World} (h : Hid (Below B w1 w)) (hB : B ≤ w.heap.size) (hx : Below w.heap.size w x) : Below B w1 x := h.out.trans (hx.mono hB)

end Go.Proofs.Ytgpfjinkmagelaa
