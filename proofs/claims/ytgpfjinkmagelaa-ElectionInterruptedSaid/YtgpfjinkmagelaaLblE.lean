/- Labels: Equal of the code and of the reference. (Printed by lble.py.) -/
import Derived.Test.YtgpfjinkmagelaaLblV
import Derived.Test.YtgpfjinkmagelaaEqSl
import Derived.Laws.StructEq
set_option linter.unusedVariables false
set_option linter.unusedSimpArgs false
namespace Go.Proofs.Ytgpfjinkmagelaa
open Go Go.RowKit Go.Lib

def Lb.cfgSame (a b : Lb) : Prop := a.cd = b.cd ∧ a.cw = b.cw ∧ a.ct = b.ct ∧ a.cs = b.cs ∧ a.gr = b.gr ∧ a.gb = b.gb ∧ a.gt = b.gt ∧ a.gs = b.gs ∧ a.go = b.go ∧ a.ca = b.ca ∧ a.cl = b.cl
instance (a b : Lb) : Decidable (a.cfgSame b) := by unfold Lb.cfgSame; infer_instance
def Lb.equal (a b : Lb) : Prop := a.arr = b.arr ∧ a.gen = b.gen ∧ a.prev = b.prev ∧ a.cfgSame b ∧ a.dead = b.dead ∧ a.blob = b.blob ∧ a.sum = b.sum ∧ a.root = b.root
instance (a b : Lb) : Decidable (a.equal b) := by unfold Lb.equal; infer_instance
def Lb.cfgv (l : Lb) : Array Value := #[.int .i64 l.cd, .int .i64 l.cw, .int .i64 l.ct, .int .i64 l.cs, .int .i64 l.gr, .int .i64 l.gb, .int .i64 l.gt, .int .i64 l.gs, .int .i64 l.go, .int .i64 l.ca, .int .i64 l.cl]

set_option maxRecDepth 100000 in
set_option maxHeartbeats 1600000 in
theorem cfgEq_run (a b : Lb) {o : Oper} {ρ : Operand → Value} {x y : Operand} (ho : o.op = .binOp .eql 30 x y 30) (ha : ρ x = .agg a.cfgv) (hb : ρ y = .agg b.cfgv) (w : World) :
   (execOp ρ o).run Try.prog w = .ok (.value (.bool (decide (a.cfgSame b)))) w := by
  unfold execOp
  rw [ho]
  simp only [ha, hb, Lb.cfgv]
  by_cases hq : a.cfgSame b
  · obtain ⟨h1, h2, h3, h4, h5, h6, h7, h8, h9, h10, h11⟩ := id hq
    rw [decide_eq_true hq]
    clear hq
    go_simp
  · rw [decide_eq_false hq]
    have HQ := Lib.hid hq
    clear hq
    go_simp
    have hq := HQ.out
    unfold Lb.cfgSame at hq
    exact fun h1 h2 h3 h4 h5 h6 h7 h8 h9 h10 h11 => hq ⟨h1, h2, h3, h4, h5, h6, h7, h8, h9, h10, h11⟩

set_option maxRecDepth 100000 in
set_option maxHeartbeats 1600000 in
theorem cfgNe_run (a b : Lb) {o : Oper} {ρ : Operand → Value} {x y : Operand} (ho : o.op = .binOp .neq 30 x y 30) (ha : ρ x = .agg a.cfgv) (hb : ρ y = .agg b.cfgv) (w : World) :
   (execOp ρ o).run Try.prog w = .ok (.value (.bool (!decide (a.cfgSame b)))) w := by
  unfold execOp
  rw [ho]
  simp only [ha, hb, Lb.cfgv]
  by_cases hq : a.cfgSame b
  · obtain ⟨h1, h2, h3, h4, h5, h6, h7, h8, h9, h10, h11⟩ := id hq
    rw [decide_eq_true hq]
    clear hq
    go_simp
  · rw [decide_eq_false hq]
    have HQ := Lib.hid hq
    clear hq
    go_simp
    have hq := HQ.out
    unfold Lb.cfgSame at hq
    exact fun h1 h2 h3 h4 h5 h6 h7 h8 h9 h10 h11 => hq ⟨h1, h2, h3, h4, h5, h6, h7, h8, h9, h10, h11⟩

set_option maxRecDepth 100000 in
set_option maxHeartbeats 1600000 in
theorem equal_any (a b : Lb) (ad ad' : Option Addr) (nd nd' c c' : Nat) (w : World) (h : Sl w 1 ad nd c (bb a.dead)) (h' : Sl w 1 ad' nd' c' (bb b.dead)) (hs : a.dead.length ≤ 1000000) :
    Calls Try.prog 24 #[a.agg ad nd c, b.agg ad' nd' c'] w fun e w' => e = .returned (.bool (decide (a.equal b))) ∧ Below w.heap.size w w' := by
  have HH := Lib.hid h
  have HH' := Lib.hid h'
  have HN := Lib.hid (show nd = a.dead.length by have := h.len; rw [bb_length, Nat.mul_one] at this; omega)
  have HN' := Lib.hid (show nd' = b.dead.length by have := h'.len; rw [bb_length, Nat.mul_one] at this; omega)
  have HCAP := Lib.hid h.cap
  have HCAP' := Lib.hid h'.cap
  clear h h'
  unfold Lb.agg
  go_enter Try.func24, Try.ntmps24
  refine wp_seq_k (fun K hK => ?_)
  refine Lin.begin ?_
  refine Lin.takeW 2 rfl rfl (by go_simp; exact ⟨rfl, rfl⟩) (by simp only [Act.put, List.setIfInBounds_toArray, List.set_cons_zero, List.set_cons_succ] <;> rfl) ?_
  intro w1 hw1
  obtain ⟨g, hg⟩ : ∃ g, g = w.heap.size := ⟨_, rfl⟩
  have L1 : LbAt a ad nd c g w1 := by rw [hw1, hg]; exact LbAt.new a ad nd c 32 w
  have HB1 : Hid (Below w.heap.size w w1) := by rw [hw1]; exact Lib.hid ((Below.refl w.heap.size w).alloc (Nat.le_refl _) _)
  have hz1 : w.heap.size ≤ w1.heap.size := HB1.out.size
  have hg1 : g < w1.heap.size := by rw [hw1, hg]; simp
  rw [← hg]
  have HG := Lib.hid hg
  clear hw1 hg
  refine Lin.takeW 3 rfl rfl (by go_simp; exact ⟨rfl, rfl⟩) (by simp only [Act.put, List.setIfInBounds_toArray, List.set_cons_zero, List.set_cons_succ] <;> rfl) ?_
  intro w2 hw2
  obtain ⟨g', hg'⟩ : ∃ g', g' = w1.heap.size := ⟨_, rfl⟩
  have M1 : LbAt b ad' nd' c' g' w2 := by rw [hw2, hg']; exact LbAt.new b ad' nd' c' 32 w1
  have L2 : LbAt a ad nd c g w2 := L1.below (by rw [hw2]; exact (Below.refl w1.heap.size w1).alloc (Nat.le_refl _) _) hg1
  have HB2 : Hid (Below w.heap.size w w2) := by rw [hw2]; exact Lib.hid (HB1.out.alloc hz1 _)
  have hz2 : w.heap.size ≤ w2.heap.size := HB2.out.size
  rw [← hg']
  have HG' := Lib.hid hg'
  have hg2 : g < w2.heap.size := by rw [hw2]; simp; omega
  have hgg2 : g' < w2.heap.size := by rw [hw2, hg']; simp
  clear hw2 hg' L1
  obtain ⟨k0, k1, k2, k3, k4, k5, k6, k7, k8, k9, k10, k11, k12, k13, k14, k15, k16, k17, k18⟩ := id L2
  obtain ⟨j0, j1, j2, j3, j4, j5, j6, j7, j8, j9, j10, j11, j12, j13, j14, j15, j16, j17, j18⟩ := id M1
  have HL2 := Lib.hid L2
  have HM2 := Lib.hid M1
  clear L2 M1
  refine Lin.take 4 rfl rfl (by go_simp <;> with_reducible rfl) (by simp only [Act.put, List.setIfInBounds_toArray, List.set_cons_zero, List.set_cons_succ] <;> rfl) ?_
  refine Lin.done (hK _ _ ?_)
  clear hK K
  refine wp_seq_k (fun K hK => ?_)
  refine Lin.begin ?_
  refine Lin.take 5 rfl rfl (by go_simp <;> with_reducible rfl) (by simp only [Act.put, List.setIfInBounds_toArray, List.set_cons_zero, List.set_cons_succ] <;> rfl) ?_
  refine Lin.take 6 rfl rfl (by go_simp <;> with_reducible rfl) (by simp only [Act.put, List.setIfInBounds_toArray, List.set_cons_zero, List.set_cons_succ] <;> rfl) ?_
  refine Lin.take 7 rfl rfl (by go_simp <;> with_reducible rfl) (by simp only [Act.put, List.setIfInBounds_toArray, List.set_cons_zero, List.set_cons_succ] <;> rfl) ?_
  refine Lin.take 8 rfl rfl (by go_simp <;> with_reducible rfl) (by simp only [Act.put, List.setIfInBounds_toArray, List.set_cons_zero, List.set_cons_succ] <;> rfl) ?_
  refine Lin.take 9 rfl rfl (by go_simp <;> with_reducible rfl) (by simp only [Act.put, List.setIfInBounds_toArray, List.set_cons_zero, List.set_cons_succ] <;> rfl) ?_
  refine Lin.bool 10 rfl rfl (by go_simp <;> with_reducible rfl) ?_
  intro B10 hB10 aa ha; simp only [Act.put, List.setIfInBounds_toArray, List.set_cons_zero, List.set_cons_succ] at ha; subst ha; replace hB10 := Lib.hid hB10
  refine Lin.may 11 B10 (by cases B10 <;> kernel_rfl) rfl (by intro hc; (try simp only [hc, gv_true]); go_simp <;> with_reducible rfl) (by simp only [Act.put, List.setIfInBounds_toArray, List.set_cons_zero, List.set_cons_succ] <;> rfl) ?_
  refine Lin.may 12 B10 (by cases B10 <;> kernel_rfl) rfl (by intro hc; (try simp only [hc, gv_true]); go_simp <;> with_reducible rfl) (by simp only [Act.put, List.setIfInBounds_toArray, List.set_cons_zero, List.set_cons_succ] <;> rfl) ?_
  refine Lin.may 13 B10 (by cases B10 <;> kernel_rfl) rfl (by intro hc; (try simp only [hc, gv_true]); go_simp <;> with_reducible rfl) (by simp only [Act.put, List.setIfInBounds_toArray, List.set_cons_zero, List.set_cons_succ] <;> rfl) ?_
  refine Lin.may 14 B10 (by cases B10 <;> kernel_rfl) rfl (by intro hc; (try simp only [hc, gv_true]); go_simp <;> with_reducible rfl) (by simp only [Act.put, List.setIfInBounds_toArray, List.set_cons_zero, List.set_cons_succ] <;> rfl) ?_
  refine Lin.may 15 B10 (by cases B10 <;> kernel_rfl) rfl (by intro hc; (try simp only [hc, gv_true]); go_simp <;> with_reducible rfl) (by simp only [Act.put, List.setIfInBounds_toArray, List.set_cons_zero, List.set_cons_succ] <;> rfl) ?_
  refine Lin.and 16 10 15 rfl rfl rfl rfl rfl ?_
  intro B16 hB16 aa ha; simp only [Act.put, List.setIfInBounds_toArray, List.set_cons_zero, List.set_cons_succ] at ha; subst ha; replace hB16 := Lib.hid hB16
  refine Lin.take 17 rfl rfl (by go_simp <;> with_reducible rfl) (by simp only [Act.put, List.setIfInBounds_toArray, List.set_cons_zero, List.set_cons_succ] <;> rfl) ?_
  refine Lin.may 18 B16 (by cases B16 <;> kernel_rfl) rfl (by intro hc; (try simp only [hc, gv_true]); go_simp <;> with_reducible rfl) (by simp only [Act.put, List.setIfInBounds_toArray, List.set_cons_zero, List.set_cons_succ] <;> rfl) ?_
  refine Lin.may 19 B16 (by cases B16 <;> kernel_rfl) rfl (by intro hc; (try simp only [hc, gv_true]); go_simp <;> with_reducible rfl) (by simp only [Act.put, List.setIfInBounds_toArray, List.set_cons_zero, List.set_cons_succ] <;> rfl) ?_
  refine Lin.may 20 B16 (by cases B16 <;> kernel_rfl) rfl (by intro hc; (try simp only [hc, gv_true]); go_simp <;> with_reducible rfl) (by simp only [Act.put, List.setIfInBounds_toArray, List.set_cons_zero, List.set_cons_succ] <;> rfl) ?_
  refine Lin.may 21 B16 (by cases B16 <;> kernel_rfl) rfl (by intro hc; (try simp only [hc, gv_true]); go_simp <;> with_reducible rfl) (by simp only [Act.put, List.setIfInBounds_toArray, List.set_cons_zero, List.set_cons_succ] <;> rfl) ?_
  refine Lin.may 22 B16 (by cases B16 <;> kernel_rfl) rfl (by intro hc; (try simp only [hc, gv_true]); go_simp <;> with_reducible rfl) (by simp only [Act.put, List.setIfInBounds_toArray, List.set_cons_zero, List.set_cons_succ] <;> rfl) ?_
  refine Lin.and 23 17 22 rfl rfl rfl rfl rfl ?_
  intro B23 hB23 aa ha; simp only [Act.put, List.setIfInBounds_toArray, List.set_cons_zero, List.set_cons_succ] at ha; subst ha; replace hB23 := Lib.hid hB23
  refine Lin.take 24 rfl rfl (by go_simp <;> with_reducible rfl) (by simp only [Act.put, List.setIfInBounds_toArray, List.set_cons_zero, List.set_cons_succ] <;> rfl) ?_
  refine Lin.may 25 B23 (by cases B23 <;> kernel_rfl) rfl (by intro hc; (try simp only [hc, gv_true]); go_simp <;> with_reducible rfl) (by simp only [Act.put, List.setIfInBounds_toArray, List.set_cons_zero, List.set_cons_succ] <;> rfl) ?_
  refine Lin.may 26 B23 (by cases B23 <;> kernel_rfl) rfl (by intro hc; (try simp only [hc, gv_true]); go_simp <;> with_reducible rfl) (by simp only [Act.put, List.setIfInBounds_toArray, List.set_cons_zero, List.set_cons_succ] <;> rfl) ?_
  refine Lin.may 27 B23 (by cases B23 <;> kernel_rfl) rfl (by intro hc; (try simp only [hc, gv_true]); go_simp <;> with_reducible rfl) (by simp only [Act.put, List.setIfInBounds_toArray, List.set_cons_zero, List.set_cons_succ] <;> rfl) ?_
  refine Lin.may 28 B23 (by cases B23 <;> kernel_rfl) rfl (by intro hc; (try simp only [hc, gv_true]); go_simp <;> with_reducible rfl) (by simp only [Act.put, List.setIfInBounds_toArray, List.set_cons_zero, List.set_cons_succ] <;> rfl) ?_
  refine Lin.may 29 B23 (v := .bool (decide (a.cfgSame b))) (by cases B23 <;> kernel_rfl) rfl (by intro hc; simp only [hc, gv_true]; exact cfgEq_run a b rfl rfl rfl _) (by simp only [Act.put, List.setIfInBounds_toArray, List.set_cons_zero, List.set_cons_succ] <;> rfl) ?_
  refine Lin.and 30 24 29 rfl rfl rfl rfl rfl ?_
  intro B30 hB30 aa ha; simp only [Act.put, List.setIfInBounds_toArray, List.set_cons_zero, List.set_cons_succ] at ha; subst ha; replace hB30 := Lib.hid hB30
  refine Lin.take 31 rfl rfl (by go_simp <;> with_reducible rfl) (by simp only [Act.put, List.setIfInBounds_toArray, List.set_cons_zero, List.set_cons_succ] <;> rfl) ?_
  refine Lin.may 32 B30 (by cases B30 <;> kernel_rfl) rfl (by intro hc; (try simp only [hc, gv_true]); go_simp <;> with_reducible rfl) (by simp only [Act.put, List.setIfInBounds_toArray, List.set_cons_zero, List.set_cons_succ] <;> rfl) ?_
  refine Lin.may 33 B30 (by cases B30 <;> kernel_rfl) rfl (by intro hc; (try simp only [hc, gv_true]); go_simp <;> with_reducible rfl) (by simp only [Act.put, List.setIfInBounds_toArray, List.set_cons_zero, List.set_cons_succ] <;> rfl) ?_
  refine Lin.may 34 B30 (by cases B30 <;> kernel_rfl) rfl (by intro hc; (try simp only [hc, gv_true]); go_simp <;> with_reducible rfl) (by simp only [Act.put, List.setIfInBounds_toArray, List.set_cons_zero, List.set_cons_succ] <;> rfl) ?_
  refine Lin.may 35 B30 (by cases B30 <;> kernel_rfl) rfl (by intro hc; (try simp only [hc, gv_true]); go_simp <;> with_reducible rfl) (by simp only [Act.put, List.setIfInBounds_toArray, List.set_cons_zero, List.set_cons_succ] <;> rfl) ?_
  refine Lin.mayEnter 36 B30 (v := .bool (decide (a.dead = b.dead))) (S := Below w2.heap.size w2) (by cases B30 <;> kernel_rfl) rfl (by intro hc; (try simp only [hc, gv_true]); go_simp <;> (first | exact ⟨rfl, rfl⟩ | rfl)) (fun hc => (eqBools_any a.dead b.dead ad ad' nd nd' c c' _ (HH.out.below HB2.out) (HH'.out.below HB2.out) hs)) (fun _ => Below.refl _ _) (by simp only [Act.put, List.setIfInBounds_toArray, List.set_cons_zero, List.set_cons_succ] <;> rfl) ?_
  intro w3 hb3
  have HB3 := Lib.hid (HB2.out.trans (hb3.mono hz2)); have L3 := HL2.out.below hb3 hg2; have M3 := HM2.out.below hb3 hgg2
  clear k0 k1 k2 k3 k4 k5 k6 k7 k8 k9 k10 k11 k12 k13 k14 k15 k16 k17 k18 j0 j1 j2 j3 j4 j5 j6 j7 j8 j9 j10 j11 j12 j13 j14 j15 j16 j17 j18; obtain ⟨k0, k1, k2, k3, k4, k5, k6, k7, k8, k9, k10, k11, k12, k13, k14, k15, k16, k17, k18⟩ := id L3; obtain ⟨j0, j1, j2, j3, j4, j5, j6, j7, j8, j9, j10, j11, j12, j13, j14, j15, j16, j17, j18⟩ := id M3; clear L3 M3 hb3
  refine Lin.and 37 31 36 rfl rfl rfl rfl rfl ?_
  intro B37 hB37 aa ha; simp only [Act.put, List.setIfInBounds_toArray, List.set_cons_zero, List.set_cons_succ] at ha; subst ha; replace hB37 := Lib.hid hB37
  refine Lin.take 38 rfl rfl (by go_simp <;> with_reducible rfl) (by simp only [Act.put, List.setIfInBounds_toArray, List.set_cons_zero, List.set_cons_succ] <;> rfl) ?_
  refine Lin.may 39 B37 (by cases B37 <;> kernel_rfl) rfl (by intro hc; (try simp only [hc, gv_true]); go_simp <;> with_reducible rfl) (by simp only [Act.put, List.setIfInBounds_toArray, List.set_cons_zero, List.set_cons_succ] <;> rfl) ?_
  refine Lin.may 40 B37 (by cases B37 <;> kernel_rfl) rfl (by intro hc; (try simp only [hc, gv_true]); go_simp <;> with_reducible rfl) (by simp only [Act.put, List.setIfInBounds_toArray, List.set_cons_zero, List.set_cons_succ] <;> rfl) ?_
  refine Lin.may 41 B37 (by cases B37 <;> kernel_rfl) rfl (by intro hc; (try simp only [hc, gv_true]); go_simp <;> with_reducible rfl) (by simp only [Act.put, List.setIfInBounds_toArray, List.set_cons_zero, List.set_cons_succ] <;> rfl) ?_
  refine Lin.may 42 B37 (by cases B37 <;> kernel_rfl) rfl (by intro hc; (try simp only [hc, gv_true]); go_simp <;> with_reducible rfl) (by simp only [Act.put, List.setIfInBounds_toArray, List.set_cons_zero, List.set_cons_succ] <;> rfl) ?_
  refine Lin.may 43 B37 (by cases B37 <;> kernel_rfl) rfl (by intro hc; (try simp only [hc, gv_true]); go_simp <;> with_reducible rfl) (by simp only [Act.put, List.setIfInBounds_toArray, List.set_cons_zero, List.set_cons_succ] <;> rfl) ?_
  refine Lin.and 44 38 43 rfl rfl rfl rfl rfl ?_
  intro B44 hB44 aa ha; simp only [Act.put, List.setIfInBounds_toArray, List.set_cons_zero, List.set_cons_succ] at ha; subst ha; replace hB44 := Lib.hid hB44
  refine Lin.take 45 rfl rfl (by go_simp <;> with_reducible rfl) (by simp only [Act.put, List.setIfInBounds_toArray, List.set_cons_zero, List.set_cons_succ] <;> rfl) ?_
  refine Lin.may 46 B44 (by cases B44 <;> kernel_rfl) rfl (by intro hc; (try simp only [hc, gv_true]); go_simp <;> with_reducible rfl) (by simp only [Act.put, List.setIfInBounds_toArray, List.set_cons_zero, List.set_cons_succ] <;> rfl) ?_
  refine Lin.may 47 B44 (by cases B44 <;> kernel_rfl) rfl (by intro hc; (try simp only [hc, gv_true]); go_simp <;> with_reducible rfl) (by simp only [Act.put, List.setIfInBounds_toArray, List.set_cons_zero, List.set_cons_succ] <;> rfl) ?_
  refine Lin.may 48 B44 (by cases B44 <;> kernel_rfl) rfl (by intro hc; (try simp only [hc, gv_true]); go_simp <;> with_reducible rfl) (by simp only [Act.put, List.setIfInBounds_toArray, List.set_cons_zero, List.set_cons_succ] <;> rfl) ?_
  refine Lin.may 49 B44 (by cases B44 <;> kernel_rfl) rfl (by intro hc; (try simp only [hc, gv_true]); go_simp <;> with_reducible rfl) (by simp only [Act.put, List.setIfInBounds_toArray, List.set_cons_zero, List.set_cons_succ] <;> rfl) ?_
  refine Lin.may 50 B44 (by cases B44 <;> kernel_rfl) rfl (by intro hc; (try simp only [hc, gv_true]); go_simp <;> with_reducible rfl) (by simp only [Act.put, List.setIfInBounds_toArray, List.set_cons_zero, List.set_cons_succ] <;> rfl) ?_
  refine Lin.and 51 45 50 rfl rfl rfl rfl rfl ?_
  intro B51 hB51 aa ha; simp only [Act.put, List.setIfInBounds_toArray, List.set_cons_zero, List.set_cons_succ] at ha; subst ha; replace hB51 := Lib.hid hB51
  refine Lin.take 52 rfl rfl (by go_simp <;> with_reducible rfl) (by simp only [Act.put, List.setIfInBounds_toArray, List.set_cons_zero, List.set_cons_succ] <;> rfl) ?_
  refine Lin.may 53 B51 (by cases B51 <;> kernel_rfl) rfl (by intro hc; (try simp only [hc, gv_true]); go_simp <;> with_reducible rfl) (by simp only [Act.put, List.setIfInBounds_toArray, List.set_cons_zero, List.set_cons_succ] <;> rfl) ?_
  refine Lin.may 54 B51 (by cases B51 <;> kernel_rfl) rfl (by intro hc; (try simp only [hc, gv_true]); go_simp <;> with_reducible rfl) (by simp only [Act.put, List.setIfInBounds_toArray, List.set_cons_zero, List.set_cons_succ] <;> rfl) ?_
  refine Lin.may 55 B51 (by cases B51 <;> kernel_rfl) rfl (by intro hc; (try simp only [hc, gv_true]); go_simp <;> with_reducible rfl) (by simp only [Act.put, List.setIfInBounds_toArray, List.set_cons_zero, List.set_cons_succ] <;> rfl) ?_
  refine Lin.may 56 B51 (by cases B51 <;> kernel_rfl) rfl (by intro hc; (try simp only [hc, gv_true]); go_simp <;> with_reducible rfl) (by simp only [Act.put, List.setIfInBounds_toArray, List.set_cons_zero, List.set_cons_succ] <;> rfl) ?_
  refine Lin.may 57 B51 (by cases B51 <;> kernel_rfl) rfl (by intro hc; (try simp only [hc, gv_true]); go_simp <;> with_reducible rfl) (by simp only [Act.put, List.setIfInBounds_toArray, List.set_cons_zero, List.set_cons_succ] <;> rfl) ?_
  refine Lin.and 58 52 57 rfl rfl rfl rfl rfl ?_
  intro B58 hB58 aa ha; simp only [Act.put, List.setIfInBounds_toArray, List.set_cons_zero, List.set_cons_succ] at ha; subst ha; replace hB58 := Lib.hid hB58
  refine Lin.take 4 rfl rfl (by go_simp <;> with_reducible rfl) (by simp only [Act.put, List.setIfInBounds_toArray, List.set_cons_zero, List.set_cons_succ] <;> rfl) ?_
  refine Lin.done (hK _ _ ?_)
  refine wp_ret ?_
  refine bodyPost_ret (results_tmp rfl _ _ _) rfl ?_
  refine ⟨?_, HB3.out⟩
  have hval : B58 = decide (a.equal b) := by
    rw [hB58.out, hB51.out, hB44.out, hB37.out, hB30.out, hB23.out, hB16.out, hB10.out]
    rw [Bool.eq_iff_iff, decide_eq_true_iff (p := a.equal b)]
    simp only [Bool.and_eq_true, decide_eq_true_eq, beq_iff_eq]
    exact ⟨fun ⟨⟨⟨⟨⟨⟨⟨h1, h2⟩, h3⟩, h4⟩, h5⟩, h6⟩, h7⟩, h8⟩ => ⟨h1, h2, h3, h4, h5, h6, h7, h8⟩, fun ⟨h1, h2, h3, h4, h5, h6, h7, h8⟩ => ⟨⟨⟨⟨⟨⟨⟨h1, h2⟩, h3⟩, h4⟩, h5⟩, h6⟩, h7⟩, h8⟩⟩
  rw [← hval]
  rfl

set_option maxRecDepth 100000 in
set_option maxHeartbeats 1600000 in
theorem refEqual_any (a b : Lb) (ad ad' : Option Addr) (nd nd' c c' : Nat) (w : World) (h : Sl w 1 ad nd c (bb a.dead)) (h' : Sl w 1 ad' nd' c' (bb b.dead)) (hs : a.dead.length ≤ 1000000) :
    Calls Try.prog 15 #[a.agg ad nd c, b.agg ad' nd' c'] w fun e w' => e = .returned (.bool (decide (a.equal b))) ∧ Below w.heap.size w w' := by
  have HH := Lib.hid h
  have HH' := Lib.hid h'
  have HN := Lib.hid (show nd = a.dead.length by have := h.len; rw [bb_length, Nat.mul_one] at this; omega)
  have HN' := Lib.hid (show nd' = b.dead.length by have := h'.len; rw [bb_length, Nat.mul_one] at this; omega)
  have HCAP := Lib.hid h.cap
  have HCAP' := Lib.hid h'.cap
  clear h h'
  unfold Lb.agg
  go_enter Try.func15, Try.ntmps15
  refine wp_seq_k (fun K hK => ?_)
  refine Lin.begin ?_
  refine Lin.takeW 2 rfl rfl (by go_simp; exact ⟨rfl, rfl⟩) (by simp only [Act.put, List.setIfInBounds_toArray, List.set_cons_zero, List.set_cons_succ] <;> rfl) ?_
  intro w1 hw1
  obtain ⟨g, hg⟩ : ∃ g, g = w.heap.size := ⟨_, rfl⟩
  have L1 : LbAt a ad nd c g w1 := by rw [hw1, hg]; exact LbAt.new a ad nd c 32 w
  have HB1 : Hid (Below w.heap.size w w1) := by rw [hw1]; exact Lib.hid ((Below.refl w.heap.size w).alloc (Nat.le_refl _) _)
  have hz1 : w.heap.size ≤ w1.heap.size := HB1.out.size
  have hg1 : g < w1.heap.size := by rw [hw1, hg]; simp
  rw [← hg]
  have HG := Lib.hid hg
  clear hw1 hg
  refine Lin.takeW 3 rfl rfl (by go_simp; exact ⟨rfl, rfl⟩) (by simp only [Act.put, List.setIfInBounds_toArray, List.set_cons_zero, List.set_cons_succ] <;> rfl) ?_
  intro w2 hw2
  obtain ⟨g', hg'⟩ : ∃ g', g' = w1.heap.size := ⟨_, rfl⟩
  have M1 : LbAt b ad' nd' c' g' w2 := by rw [hw2, hg']; exact LbAt.new b ad' nd' c' 32 w1
  have L2 : LbAt a ad nd c g w2 := L1.below (by rw [hw2]; exact (Below.refl w1.heap.size w1).alloc (Nat.le_refl _) _) hg1
  have HB2 : Hid (Below w.heap.size w w2) := by rw [hw2]; exact Lib.hid (HB1.out.alloc hz1 _)
  have hz2 : w.heap.size ≤ w2.heap.size := HB2.out.size
  rw [← hg']
  have HG' := Lib.hid hg'
  have hg2 : g < w2.heap.size := by rw [hw2]; simp; omega
  have hgg2 : g' < w2.heap.size := by rw [hw2, hg']; simp
  clear hw2 hg' L1
  obtain ⟨k0, k1, k2, k3, k4, k5, k6, k7, k8, k9, k10, k11, k12, k13, k14, k15, k16, k17, k18⟩ := id L2
  obtain ⟨j0, j1, j2, j3, j4, j5, j6, j7, j8, j9, j10, j11, j12, j13, j14, j15, j16, j17, j18⟩ := id M1
  have HL2 := Lib.hid L2
  have HM2 := Lib.hid M1
  clear L2 M1
  refine Lin.take 4 rfl rfl (by go_simp <;> with_reducible rfl) (by simp only [Act.put, List.setIfInBounds_toArray, List.set_cons_zero, List.set_cons_succ] <;> rfl) ?_
  refine Lin.done (hK _ _ ?_)
  clear hK K
  refine wp_seq_k (fun K1 hK1 => ?_)
  refine wp_seq_k (fun K hK => ?_)
  refine Lin.begin ?_
  refine Lin.take 6 rfl rfl (by go_simp <;> with_reducible rfl) (by simp only [Act.put, List.setIfInBounds_toArray, List.set_cons_zero, List.set_cons_succ] <;> rfl) ?_
  refine Lin.take 7 rfl rfl (by go_simp <;> with_reducible rfl) (by simp only [Act.put, List.setIfInBounds_toArray, List.set_cons_zero, List.set_cons_succ] <;> rfl) ?_
  refine Lin.take 8 rfl rfl (by go_simp <;> with_reducible rfl) (by simp only [Act.put, List.setIfInBounds_toArray, List.set_cons_zero, List.set_cons_succ] <;> rfl) ?_
  refine Lin.take 9 rfl rfl (by go_simp <;> with_reducible rfl) (by simp only [Act.put, List.setIfInBounds_toArray, List.set_cons_zero, List.set_cons_succ] <;> rfl) ?_
  refine Lin.take 10 rfl rfl (by go_simp <;> with_reducible rfl) (by simp only [Act.put, List.setIfInBounds_toArray, List.set_cons_zero, List.set_cons_succ] <;> rfl) ?_
  refine Lin.bool 11 rfl rfl (by go_simp <;> with_reducible rfl) ?_
  intro B11 hB11 aa ha; simp only [Act.put, List.setIfInBounds_toArray, List.set_cons_zero, List.set_cons_succ] at ha; subst ha; replace hB11 := Lib.hid hB11
  refine Lin.may 12 (!B11) (by cases B11 <;> kernel_rfl) rfl (by intro hc; (try simp only [hc, gv_true]); go_simp <;> with_reducible rfl) (by simp only [Act.put, List.setIfInBounds_toArray, List.set_cons_zero, List.set_cons_succ] <;> rfl) ?_
  refine Lin.may 13 (!B11) (by cases B11 <;> kernel_rfl) rfl (by intro hc; (try simp only [hc, gv_true]); go_simp <;> with_reducible rfl) (by simp only [Act.put, List.setIfInBounds_toArray, List.set_cons_zero, List.set_cons_succ] <;> rfl) ?_
  refine Lin.may 14 (!B11) (by cases B11 <;> kernel_rfl) rfl (by intro hc; (try simp only [hc, gv_true]); go_simp <;> with_reducible rfl) (by simp only [Act.put, List.setIfInBounds_toArray, List.set_cons_zero, List.set_cons_succ] <;> rfl) ?_
  refine Lin.may 15 (!B11) (by cases B11 <;> kernel_rfl) rfl (by intro hc; (try simp only [hc, gv_true]); go_simp <;> with_reducible rfl) (by simp only [Act.put, List.setIfInBounds_toArray, List.set_cons_zero, List.set_cons_succ] <;> rfl) ?_
  refine Lin.may 16 (!B11) (by cases B11 <;> kernel_rfl) rfl (by intro hc; (try simp only [hc, gv_true]); go_simp <;> with_reducible rfl) (by simp only [Act.put, List.setIfInBounds_toArray, List.set_cons_zero, List.set_cons_succ] <;> rfl) ?_
  refine Lin.or 17 11 16 rfl rfl rfl rfl rfl ?_
  intro B17 hB17 aa ha; simp only [Act.put, List.setIfInBounds_toArray, List.set_cons_zero, List.set_cons_succ] at ha; subst ha; replace hB17 := Lib.hid hB17
  refine Lin.take 18 rfl rfl (by go_simp <;> with_reducible rfl) (by simp only [Act.put, List.setIfInBounds_toArray, List.set_cons_zero, List.set_cons_succ] <;> rfl) ?_
  refine Lin.may 19 (!B17) (by cases B17 <;> kernel_rfl) rfl (by intro hc; (try simp only [hc, gv_true]); go_simp <;> with_reducible rfl) (by simp only [Act.put, List.setIfInBounds_toArray, List.set_cons_zero, List.set_cons_succ] <;> rfl) ?_
  refine Lin.may 20 (!B17) (by cases B17 <;> kernel_rfl) rfl (by intro hc; (try simp only [hc, gv_true]); go_simp <;> with_reducible rfl) (by simp only [Act.put, List.setIfInBounds_toArray, List.set_cons_zero, List.set_cons_succ] <;> rfl) ?_
  refine Lin.may 21 (!B17) (by cases B17 <;> kernel_rfl) rfl (by intro hc; (try simp only [hc, gv_true]); go_simp <;> with_reducible rfl) (by simp only [Act.put, List.setIfInBounds_toArray, List.set_cons_zero, List.set_cons_succ] <;> rfl) ?_
  refine Lin.may 22 (!B17) (by cases B17 <;> kernel_rfl) rfl (by intro hc; (try simp only [hc, gv_true]); go_simp <;> with_reducible rfl) (by simp only [Act.put, List.setIfInBounds_toArray, List.set_cons_zero, List.set_cons_succ] <;> rfl) ?_
  refine Lin.may 23 (!B17) (by cases B17 <;> kernel_rfl) rfl (by intro hc; (try simp only [hc, gv_true]); go_simp <;> with_reducible rfl) (by simp only [Act.put, List.setIfInBounds_toArray, List.set_cons_zero, List.set_cons_succ] <;> rfl) ?_
  refine Lin.or 24 18 23 rfl rfl rfl rfl rfl ?_
  intro B24 hB24 aa ha; simp only [Act.put, List.setIfInBounds_toArray, List.set_cons_zero, List.set_cons_succ] at ha; subst ha; replace hB24 := Lib.hid hB24
  refine Lin.take 25 rfl rfl (by go_simp <;> with_reducible rfl) (by simp only [Act.put, List.setIfInBounds_toArray, List.set_cons_zero, List.set_cons_succ] <;> rfl) ?_
  refine Lin.may 26 (!B24) (by cases B24 <;> kernel_rfl) rfl (by intro hc; (try simp only [hc, gv_true]); go_simp <;> with_reducible rfl) (by simp only [Act.put, List.setIfInBounds_toArray, List.set_cons_zero, List.set_cons_succ] <;> rfl) ?_
  refine Lin.may 27 (!B24) (by cases B24 <;> kernel_rfl) rfl (by intro hc; (try simp only [hc, gv_true]); go_simp <;> with_reducible rfl) (by simp only [Act.put, List.setIfInBounds_toArray, List.set_cons_zero, List.set_cons_succ] <;> rfl) ?_
  refine Lin.may 28 (!B24) (by cases B24 <;> kernel_rfl) rfl (by intro hc; (try simp only [hc, gv_true]); go_simp <;> with_reducible rfl) (by simp only [Act.put, List.setIfInBounds_toArray, List.set_cons_zero, List.set_cons_succ] <;> rfl) ?_
  refine Lin.may 29 (!B24) (by cases B24 <;> kernel_rfl) rfl (by intro hc; (try simp only [hc, gv_true]); go_simp <;> with_reducible rfl) (by simp only [Act.put, List.setIfInBounds_toArray, List.set_cons_zero, List.set_cons_succ] <;> rfl) ?_
  refine Lin.may 30 (!B24) (v := .bool (!decide (a.cfgSame b))) (by cases B24 <;> kernel_rfl) rfl (by intro hc; simp only [hc, gv_true]; exact cfgNe_run a b rfl rfl rfl _) (by simp only [Act.put, List.setIfInBounds_toArray, List.set_cons_zero, List.set_cons_succ] <;> rfl) ?_
  refine Lin.or 31 25 30 rfl rfl rfl rfl rfl ?_
  intro B31 hB31 aa ha; simp only [Act.put, List.setIfInBounds_toArray, List.set_cons_zero, List.set_cons_succ] at ha; subst ha; replace hB31 := Lib.hid hB31
  refine Lin.take 32 rfl rfl (by go_simp <;> with_reducible rfl) (by simp only [Act.put, List.setIfInBounds_toArray, List.set_cons_zero, List.set_cons_succ] <;> rfl) ?_
  refine Lin.may 33 (!B31) (by cases B31 <;> kernel_rfl) rfl (by intro hc; (try simp only [hc, gv_true]); go_simp <;> with_reducible rfl) (by simp only [Act.put, List.setIfInBounds_toArray, List.set_cons_zero, List.set_cons_succ] <;> rfl) ?_
  refine Lin.may 34 (!B31) (by cases B31 <;> kernel_rfl) rfl (by intro hc; (try simp only [hc, gv_true]); go_simp <;> with_reducible rfl) (by simp only [Act.put, List.setIfInBounds_toArray, List.set_cons_zero, List.set_cons_succ] <;> rfl) ?_
  refine Lin.may 35 (!B31) (by cases B31 <;> kernel_rfl) rfl (by intro hc; (try simp only [hc, gv_true]); go_simp <;> with_reducible rfl) (by simp only [Act.put, List.setIfInBounds_toArray, List.set_cons_zero, List.set_cons_succ] <;> rfl) ?_
  refine Lin.may 36 (!B31) (by cases B31 <;> kernel_rfl) rfl (by intro hc; (try simp only [hc, gv_true]); go_simp <;> with_reducible rfl) (by simp only [Act.put, List.setIfInBounds_toArray, List.set_cons_zero, List.set_cons_succ] <;> rfl) ?_
  refine Lin.may 37 (!B31) (by cases B31 <;> kernel_rfl) rfl (by intro hc; (try simp only [hc, gv_true]); go_simp <;> with_reducible rfl) (by simp only [Act.put, List.setIfInBounds_toArray, List.set_cons_zero, List.set_cons_succ] <;> rfl) ?_
  refine Lin.may 38 (!B31) (by cases B31 <;> kernel_rfl) rfl (by intro hc; (try simp only [hc, gv_true]); go_simp <;> with_reducible rfl) (by simp only [Act.put, List.setIfInBounds_toArray, List.set_cons_zero, List.set_cons_succ] <;> rfl) ?_
  refine Lin.may 39 (!B31) (by cases B31 <;> kernel_rfl) rfl (by intro hc; (try simp only [hc, gv_true]); go_simp <;> with_reducible rfl) (by simp only [Act.put, List.setIfInBounds_toArray, List.set_cons_zero, List.set_cons_succ] <;> rfl) ?_
  refine Lin.or 40 32 39 rfl rfl rfl rfl rfl ?_
  intro B40 hB40 aa ha; simp only [Act.put, List.setIfInBounds_toArray, List.set_cons_zero, List.set_cons_succ] at ha; subst ha; replace hB40 := Lib.hid hB40
  refine Lin.take 41 rfl rfl (by go_simp <;> with_reducible rfl) (by simp only [Act.put, List.setIfInBounds_toArray, List.set_cons_zero, List.set_cons_succ] <;> rfl) ?_
  refine Lin.may 42 (!B40) (by cases B40 <;> kernel_rfl) rfl (by intro hc; (try simp only [hc, gv_true]); go_simp <;> with_reducible rfl) (by simp only [Act.put, List.setIfInBounds_toArray, List.set_cons_zero, List.set_cons_succ] <;> rfl) ?_
  refine Lin.may 43 (!B40) (by cases B40 <;> kernel_rfl) rfl (by intro hc; (try simp only [hc, gv_true]); go_simp <;> with_reducible rfl) (by simp only [Act.put, List.setIfInBounds_toArray, List.set_cons_zero, List.set_cons_succ] <;> rfl) ?_
  refine Lin.may 44 (!B40) (by cases B40 <;> kernel_rfl) rfl (by intro hc; (try simp only [hc, gv_true]); go_simp <;> with_reducible rfl) (by simp only [Act.put, List.setIfInBounds_toArray, List.set_cons_zero, List.set_cons_succ] <;> rfl) ?_
  refine Lin.may 45 (!B40) (by cases B40 <;> kernel_rfl) rfl (by intro hc; (try simp only [hc, gv_true]); go_simp <;> with_reducible rfl) (by simp only [Act.put, List.setIfInBounds_toArray, List.set_cons_zero, List.set_cons_succ] <;> rfl) ?_
  refine Lin.may 46 (!B40) (by cases B40 <;> kernel_rfl) rfl (by intro hc; (try simp only [hc, gv_true]); go_simp <;> with_reducible rfl) (by simp only [Act.put, List.setIfInBounds_toArray, List.set_cons_zero, List.set_cons_succ] <;> rfl) ?_
  refine Lin.or 47 41 46 rfl rfl rfl rfl rfl ?_
  intro B47 hB47 aa ha; simp only [Act.put, List.setIfInBounds_toArray, List.set_cons_zero, List.set_cons_succ] at ha; subst ha; replace hB47 := Lib.hid hB47
  refine Lin.take 48 rfl rfl (by go_simp <;> with_reducible rfl) (by simp only [Act.put, List.setIfInBounds_toArray, List.set_cons_zero, List.set_cons_succ] <;> rfl) ?_
  refine Lin.may 49 (!B47) (by cases B47 <;> kernel_rfl) rfl (by intro hc; (try simp only [hc, gv_true]); go_simp <;> with_reducible rfl) (by simp only [Act.put, List.setIfInBounds_toArray, List.set_cons_zero, List.set_cons_succ] <;> rfl) ?_
  refine Lin.may 50 (!B47) (by cases B47 <;> kernel_rfl) rfl (by intro hc; (try simp only [hc, gv_true]); go_simp <;> with_reducible rfl) (by simp only [Act.put, List.setIfInBounds_toArray, List.set_cons_zero, List.set_cons_succ] <;> rfl) ?_
  refine Lin.may 51 (!B47) (by cases B47 <;> kernel_rfl) rfl (by intro hc; (try simp only [hc, gv_true]); go_simp <;> with_reducible rfl) (by simp only [Act.put, List.setIfInBounds_toArray, List.set_cons_zero, List.set_cons_succ] <;> rfl) ?_
  refine Lin.may 52 (!B47) (by cases B47 <;> kernel_rfl) rfl (by intro hc; (try simp only [hc, gv_true]); go_simp <;> with_reducible rfl) (by simp only [Act.put, List.setIfInBounds_toArray, List.set_cons_zero, List.set_cons_succ] <;> rfl) ?_
  refine Lin.may 53 (!B47) (by cases B47 <;> kernel_rfl) rfl (by intro hc; (try simp only [hc, gv_true]); go_simp <;> with_reducible rfl) (by simp only [Act.put, List.setIfInBounds_toArray, List.set_cons_zero, List.set_cons_succ] <;> rfl) ?_
  refine Lin.or 54 48 53 rfl rfl rfl rfl rfl ?_
  intro B54 hB54 aa ha; simp only [Act.put, List.setIfInBounds_toArray, List.set_cons_zero, List.set_cons_succ] at ha; subst ha; replace hB54 := Lib.hid hB54
  refine Lin.take 55 rfl rfl (by go_simp <;> with_reducible rfl) (by simp only [Act.put, List.setIfInBounds_toArray, List.set_cons_zero, List.set_cons_succ] <;> rfl) ?_
  refine Lin.may 56 (!B54) (by cases B54 <;> kernel_rfl) rfl (by intro hc; (try simp only [hc, gv_true]); go_simp <;> with_reducible rfl) (by simp only [Act.put, List.setIfInBounds_toArray, List.set_cons_zero, List.set_cons_succ] <;> rfl) ?_
  refine Lin.may 57 (!B54) (by cases B54 <;> kernel_rfl) rfl (by intro hc; (try simp only [hc, gv_true]); go_simp <;> with_reducible rfl) (by simp only [Act.put, List.setIfInBounds_toArray, List.set_cons_zero, List.set_cons_succ] <;> rfl) ?_
  refine Lin.may 58 (!B54) (by cases B54 <;> kernel_rfl) rfl (by intro hc; (try simp only [hc, gv_true]); go_simp <;> with_reducible rfl) (by simp only [Act.put, List.setIfInBounds_toArray, List.set_cons_zero, List.set_cons_succ] <;> rfl) ?_
  refine Lin.may 59 (!B54) (by cases B54 <;> kernel_rfl) rfl (by intro hc; (try simp only [hc, gv_true]); go_simp <;> with_reducible rfl) (by simp only [Act.put, List.setIfInBounds_toArray, List.set_cons_zero, List.set_cons_succ] <;> rfl) ?_
  refine Lin.may 60 (!B54) (by cases B54 <;> kernel_rfl) rfl (by intro hc; (try simp only [hc, gv_true]); go_simp <;> with_reducible rfl) (by simp only [Act.put, List.setIfInBounds_toArray, List.set_cons_zero, List.set_cons_succ] <;> rfl) ?_
  refine Lin.or 61 55 60 rfl rfl rfl rfl rfl ?_
  intro B61 hB61 aa ha; simp only [Act.put, List.setIfInBounds_toArray, List.set_cons_zero, List.set_cons_succ] at ha; subst ha; replace hB61 := Lib.hid hB61
  refine Lin.done (hK _ _ ?_)
  refine wp_cond_split rfl (fun ht => ?_) (fun hf => ?_)
  · refine wp_seq_k (fun K2 hK2 => ?_)
    refine Lin.begin ?_
    refine Lin.take 4 rfl rfl (by go_simp <;> with_reducible rfl) (by simp only [Act.put, List.setIfInBounds_toArray, List.set_cons_zero, List.set_cons_succ] <;> rfl) ?_
    refine Lin.done (hK2 _ _ ?_)
    refine wp_ret ?_
    simp only [Exit.then]
    refine bodyPost_ret (results_tmp rfl _ _ _) rfl ?_
    refine ⟨?_, HB2.out⟩
    have hnv : ¬ a.equal b := by
      rw [hB61.out, hB54.out, hB47.out, hB40.out, hB31.out, hB24.out, hB17.out, hB11.out] at ht
      rintro ⟨h1, h2, h3, h4, h5, h6, h7, h8⟩
      have hn : (nd : Int) = nd' := by rw [HN.out, HN'.out, h5]
      simp [h1, h2, h3, h4, h6, h7, h8, hn] at ht
    rw [decide_eq_false hnv]
    rfl
  have HQ : Hid (a.arr = b.arr ∧ a.gen = b.gen ∧ a.prev = b.prev ∧ a.cfgSame b ∧ nd = nd' ∧ a.blob = b.blob ∧ a.sum = b.sum ∧ a.root = b.root) := by
    rw [hB61.out, hB54.out, hB47.out, hB40.out, hB31.out, hB24.out, hB17.out, hB11.out] at hf
    simp only [Bool.or_eq_false_iff, Bool.not_eq_false', decide_eq_true_eq, decide_eq_false_iff_not, bne_eq_false_iff_eq] at hf
    obtain ⟨⟨⟨⟨⟨⟨⟨h1, h2⟩, h3⟩, h4⟩, h5⟩, h6⟩, h7⟩, h8⟩ := hf
    exact Lib.hid ⟨h1, h2, h3, h4, by omega, h6, h7, h8⟩
  clear hf hB61 hB54 hB47 hB40 hB31 hB24 hB17 hB11
  refine wp_skip ?_
  refine hK1 _ _ ?_
  clear hK1 K1 hK K k0 k1 k2 k3 k4 k5 k6 k7 k8 k9 k10 k11 k12 k13 k14 k15 k16 k17 k18 j0 j1 j2 j3 j4 j5 j6 j7 j8 j9 j10 j11 j12 j13 j14 j15 j16 j17 j18
  obtain rfl : nd = nd' := HQ.out.2.2.2.2.1
  have k15 := HL2.out.k15
  go_wp2
  have hn6 : nd ≤ 1000000 := by have := HN.out; omega
  clear k15
  go_loopw [5] (fun iv wr => ∃ (i : Nat), iv = .int .i64 (i : Int) ∧ i ≤ nd ∧ a.dead.take i = b.dead.take i ∧ Hid (LbAt a ad nd c g wr) ∧ Hid (LbAt b ad' nd c' g' wr) ∧ g < wr.heap.size ∧ g' < wr.heap.size ∧ Hid (Below w.heap.size w wr)) (fun iv _ => nd - (intOf iv).toNat)
  case atStart => exact ⟨0, rfl, by omega, rfl, HL2, HM2, hg2, hgg2, HB2⟩
  case round =>
    obtain ⟨i, rfl, hin, htk, HL, HM, hlg, hlg2, hB⟩ := hrel
    have HT := Lib.hid htk
    have k15 := HL.out.k15
    clear htk
    by_cases hi : i < nd
    · have hiI : (i : Int) < nd := by omega
      have hi0 : (0 : Int) ≤ (i : Int) := by omega
      have hik : i < a.dead.length := by have := HN.out; omega
      have him : i < b.dead.length := by have := HN'.out; omega
      have hcap1 := HCAP.out
      have hcap2 := HCAP'.out
      obtain ⟨bb1, off, ha, hcell⟩ := HH.out.at (k := i) (by rw [bb_length]; exact hik)
      obtain ⟨bb2, off', ha', hcell'⟩ := HH'.out.at (k := i) (by rw [bb_length]; exact him)
      have CA : Hid (∀ z, Below w.heap.size w z → z.cell? ⟨bb1, off + i, none⟩ = some (.bool a.dead[i])) := by
        refine Lib.hid fun z hz => ?_
        obtain ⟨b2, off2, ha2, hc2⟩ := (HH.out.below hz).at (k := i) (by rw [bb_length]; exact hik)
        rw [ha] at ha2
        obtain ⟨rfl, rfl⟩ : bb1 = b2 ∧ off = off2 := by simpa using ha2
        have := hc2 i (by rw [bb_length]; exact hik)
        simpa only [bb, List.getElem_map] using this
      have CB : Hid (∀ z, Below w.heap.size w z → z.cell? ⟨bb2, off' + i, none⟩ = some (.bool b.dead[i])) := by
        refine Lib.hid fun z hz => ?_
        obtain ⟨b2, off2, ha2, hc2⟩ := (HH'.out.below hz).at (k := i) (by rw [bb_length]; exact him)
        rw [ha'] at ha2
        obtain ⟨rfl, rfl⟩ : bb2 = b2 ∧ off' = off2 := by simpa using ha2
        have := hc2 i (by rw [bb_length]; exact him)
        simpa only [bb, List.getElem_map] using this
      clear hcell hcell'
      subst ha ha'
      have HB0 : Hid (Below w.heap.size w wr.drew) := Lib.hid hB.out.drew
      have hs : w.heap.size ≤ wr.drew.heap.size := HB0.out.size
      have HB : Hid (Below wr.heap.size wr wr.drew) := Lib.hid (Below.refl _ _).drew
      have hs2 : wr.heap.size ≤ wr.drew.heap.size := HB.out.size
      go_wp2
      refine Rest.begin 11 (by kernel_rfl) (by kernel_rfl) ?_
      refine Rest.take 0 69 rfl (by kernel_rfl) (by kernel_rfl) (by kernel_rfl) (fun _ _ _ h => h) (by rfl) (by rfl) (by intro x hx; go_simp <;> with_reducible rfl) (by simp only [Act.put, List.setIfInBounds_toArray, List.set_cons_zero, List.set_cons_succ] <;> rfl) ?_
      refine Rest.take 1 70 rfl (by kernel_rfl) (by kernel_rfl) (by kernel_rfl) (fun _ _ _ h => h) (by rfl) (by rfl) (by intro x hx; have hc := (HL.out.below (later HB hs2 hx) hlg).k15; go_simp <;> with_reducible rfl) (by simp only [Act.put, List.setIfInBounds_toArray, List.set_cons_zero, List.set_cons_succ] <;> rfl) ?_
      refine Rest.take 2 71 rfl (by kernel_rfl) (by kernel_rfl) (by kernel_rfl) (fun _ _ _ h => h) (by rfl) (by rfl) (by intro x hx; go_simp <;> with_reducible rfl) (by simp only [Act.put, List.setIfInBounds_toArray, List.set_cons_zero, List.set_cons_succ] <;> rfl) ?_
      refine Rest.take 3 72 rfl (by kernel_rfl) (by kernel_rfl) (by kernel_rfl) (fun _ _ _ h => h) (by rfl) (by rfl) (by intro x hx; have h1 := hiI; have h2 := hi0; have h3 := hcap1; go_simp <;> with_reducible rfl) (by simp only [Act.put, List.setIfInBounds_toArray, List.set_cons_zero, List.set_cons_succ] <;> rfl) ?_
      refine Rest.take 4 73 rfl (by kernel_rfl) (by kernel_rfl) (by kernel_rfl) (fun _ _ _ h => h) (by rfl) (by rfl) (by intro x hx; have hc := CA.out x (later HB0 hs hx); go_simp <;> with_reducible rfl) (by simp only [Act.put, List.setIfInBounds_toArray, List.set_cons_zero, List.set_cons_succ] <;> rfl) ?_
      refine Rest.take 5 74 rfl (by kernel_rfl) (by kernel_rfl) (by kernel_rfl) (fun _ _ _ h => h) (by rfl) (by rfl) (by intro x hx; go_simp <;> with_reducible rfl) (by simp only [Act.put, List.setIfInBounds_toArray, List.set_cons_zero, List.set_cons_succ] <;> rfl) ?_
      refine Rest.take 6 75 rfl (by kernel_rfl) (by kernel_rfl) (by kernel_rfl) (fun _ _ _ h => h) (by rfl) (by rfl) (by intro x hx; have hc := (HM.out.below (later HB hs2 hx) hlg2).k15; go_simp <;> with_reducible rfl) (by simp only [Act.put, List.setIfInBounds_toArray, List.set_cons_zero, List.set_cons_succ] <;> rfl) ?_
      refine Rest.take 7 76 rfl (by kernel_rfl) (by kernel_rfl) (by kernel_rfl) (fun _ _ _ h => h) (by rfl) (by rfl) (by intro x hx; go_simp <;> with_reducible rfl) (by simp only [Act.put, List.setIfInBounds_toArray, List.set_cons_zero, List.set_cons_succ] <;> rfl) ?_
      refine Rest.take 8 77 rfl (by kernel_rfl) (by kernel_rfl) (by kernel_rfl) (fun _ _ _ h => h) (by rfl) (by rfl) (by intro x hx; have h1 := hiI; have h2 := hi0; have h3 := hcap2; go_simp <;> with_reducible rfl) (by simp only [Act.put, List.setIfInBounds_toArray, List.set_cons_zero, List.set_cons_succ] <;> rfl) ?_
      refine Rest.take 9 78 rfl (by kernel_rfl) (by kernel_rfl) (by kernel_rfl) (fun _ _ _ h => h) (by rfl) (by rfl) (by intro x hx; have hc := CB.out x (later HB0 hs hx); go_simp <;> with_reducible rfl) (by simp only [Act.put, List.setIfInBounds_toArray, List.set_cons_zero, List.set_cons_succ] <;> rfl) ?_
      refine Rest.take 10 79 rfl (by kernel_rfl) (by kernel_rfl) (by kernel_rfl) (fun _ _ _ h => h) (by rfl) (by rfl) (by intro x hx; go_simp <;> with_reducible rfl) (by simp only [Act.put, List.setIfInBounds_toArray, List.set_cons_zero, List.set_cons_succ] <;> rfl) ?_
      refine Rest.done (by kernel_rfl) ?_
      go_wp2
      · go_ret
        have hlm : ¬ a.equal b := by
          rintro ⟨-, -, -, -, h5, -⟩
          simp_all
        rw [decide_eq_false hlm]
        exact ⟨rfl, HB0.out⟩
      · go_roundw
        case rel =>
          refine ⟨i + 1, by go_num, by omega, ?_, Lib.hid (HL.out.below HB.out hlg), Lib.hid (HM.out.below HB.out hlg2), hlg, hlg2, HB0⟩
          rw [List.take_succ_eq_append_getElem hik, List.take_succ_eq_append_getElem him, HT.out]
          congr 2
          simp_all
        case measure => simp [intOf]; omega
    · have hiI : ¬ (i : Int) < nd := by omega
      obtain rfl : nd = i := by omega
      go_wp2
      go_ret
      have hlm : a.equal b := by
        have h1 := HN.out
        have h2 := HN'.out
        have h3 := HT.out
        rw [List.take_of_length_le (by omega), List.take_of_length_le (by omega)] at h3
        have hq := HQ.out
        exact ⟨hq.1, hq.2.1, hq.2.2.1, hq.2.2.2.1, h3, hq.2.2.2.2.2⟩
      rw [decide_eq_true hlm]
      exact ⟨rfl, hB.out⟩

end Go.Proofs.Ytgpfjinkmagelaa
