/- Labels: label.Valid and the reference's. -/
import Derived.Test.YtgpfjinkmagelaaLbl
import Derived.Test.YtgpfjinkmagelaaLin
set_option linter.unusedVariables false
set_option linter.unusedSimpArgs false
namespace Go.Proofs.Ytgpfjinkmagelaa
open Go Go.RowKit Go.Lib

def Lb.arrv (l : Lb) (ad : Option Addr) (nd c : Nat) : Array Value :=
  #[.int .u64 l.arr, .int .i64 l.dk, .int .u64 l.gen, .int .u64 l.prev, .int .i64 l.cd, .int .i64 l.cw, .int .i64 l.ct, .int .i64 l.cs, .int .i64 l.gr, .int .i64 l.gb, .int .i64 l.gt, .int .i64 l.gs, .int .i64 l.go, .int .i64 l.ca, .int .i64 l.cl, .slice ad nd c, .int .i64 l.blob, .int .u64 l.sum, .int .u64 l.root]

/-- The cells of a label in a block of its own. -/
structure LbAt (l : Lb) (ad : Option Addr) (nd c : Nat) (g : Nat) (z : World) : Prop where
  k0 : z.cell? ⟨g, 0, none⟩ = some (.int .u64 l.arr)
  k1 : z.cell? ⟨g, 1, none⟩ = some (.int .i64 l.dk)
  k2 : z.cell? ⟨g, 2, none⟩ = some (.int .u64 l.gen)
  k3 : z.cell? ⟨g, 3, none⟩ = some (.int .u64 l.prev)
  k4 : z.cell? ⟨g, 4, none⟩ = some (.int .i64 l.cd)
  k5 : z.cell? ⟨g, 5, none⟩ = some (.int .i64 l.cw)
  k6 : z.cell? ⟨g, 6, none⟩ = some (.int .i64 l.ct)
  k7 : z.cell? ⟨g, 7, none⟩ = some (.int .i64 l.cs)
  k8 : z.cell? ⟨g, 8, none⟩ = some (.int .i64 l.gr)
  k9 : z.cell? ⟨g, 9, none⟩ = some (.int .i64 l.gb)
  k10 : z.cell? ⟨g, 10, none⟩ = some (.int .i64 l.gt)
  k11 : z.cell? ⟨g, 11, none⟩ = some (.int .i64 l.gs)
  k12 : z.cell? ⟨g, 12, none⟩ = some (.int .i64 l.go)
  k13 : z.cell? ⟨g, 13, none⟩ = some (.int .i64 l.ca)
  k14 : z.cell? ⟨g, 14, none⟩ = some (.int .i64 l.cl)
  k15 : z.cell? ⟨g, 15, none⟩ = some (.slice ad nd c)
  k16 : z.cell? ⟨g, 16, none⟩ = some (.int .i64 l.blob)
  k17 : z.cell? ⟨g, 17, none⟩ = some (.int .u64 l.sum)
  k18 : z.cell? ⟨g, 18, none⟩ = some (.int .u64 l.root)

theorem LbAt.of {l : Lb} {ad : Option Addr} {nd c g T : Nat} {z : World} (h : z.heap[g]? = some (.cells (l.arrv ad nd c) T (0, 0))) : LbAt l ad nd c g z := by
  constructor <;> (rw [cell_of_row z g _ _ T _ h]; rfl)
theorem LbAt.below {l : Lb} {ad : Option Addr} {nd c g B : Nat} {z z' : World} (h : LbAt l ad nd c g z) (hb : Below B z z') (hg : g < B) : LbAt l ad nd c g z' :=
  ⟨below_cell hb hg h.k0, below_cell hb hg h.k1, below_cell hb hg h.k2, below_cell hb hg h.k3, below_cell hb hg h.k4, below_cell hb hg h.k5, below_cell hb hg h.k6, below_cell hb hg h.k7, below_cell hb hg h.k8, below_cell hb hg h.k9, below_cell hb hg h.k10, below_cell hb hg h.k11, below_cell hb hg h.k12, below_cell hb hg h.k13, below_cell hb hg h.k14, below_cell hb hg h.k15, below_cell hb hg h.k16, below_cell hb hg h.k17, below_cell hb hg h.k18⟩
theorem LbAt.new (l : Lb) (ad : Option Addr) (nd c T : Nat) (w : World) : LbAt l ad nd c w.heap.size (w.alloc (.cells (l.arrv ad nd c) T)) := LbAt.of (heap_alloc_new _ _)
/-- The whole label is loaded. -/
theorem LbAt.range {l : Lb} {ad : Option Addr} {nd c g : Nat} {z : World} (h : LbAt l ad nd c g z) : z.rangeAt g 0 (l.arrv ad nd c).toList := by
  intro j v hv
  have hj : j < 19 := by
    have := (List.getElem?_eq_some_iff.1 hv).1
    simpa [Lb.arrv] using this
  rw [Nat.zero_add]
  match j, hj with
  | 0, _ => exact h.k0.trans hv
  | 1, _ => exact h.k1.trans hv
  | 2, _ => exact h.k2.trans hv
  | 3, _ => exact h.k3.trans hv
  | 4, _ => exact h.k4.trans hv
  | 5, _ => exact h.k5.trans hv
  | 6, _ => exact h.k6.trans hv
  | 7, _ => exact h.k7.trans hv
  | 8, _ => exact h.k8.trans hv
  | 9, _ => exact h.k9.trans hv
  | 10, _ => exact h.k10.trans hv
  | 11, _ => exact h.k11.trans hv
  | 12, _ => exact h.k12.trans hv
  | 13, _ => exact h.k13.trans hv
  | 14, _ => exact h.k14.trans hv
  | 15, _ => exact h.k15.trans hv
  | 16, _ => exact h.k16.trans hv
  | 17, _ => exact h.k17.trans hv
  | 18, _ => exact h.k18.trans hv
set_option maxRecDepth 100000 in
theorem LbAt.load {l : Lb} {ad : Option Addr} {nd c g : Nat} {z : World} (h : LbAt l ad nd c g z) :
    (Instr.loadAt 32 (.pointer (some ⟨g, 0, none⟩))).run Try.prog z = .ok (l.agg ad nd c) z :=
  run_loadAt_mid z g 0 32 (l.arrv ad nd c).toList _ h.range Try.underlying32 rfl (by kernel_rfl)

-- WALK
def ixv (ad : Option Addr) (k : Int) : Value := match ad with | some ⟨b, off, _⟩ => .pointer (some ⟨b, off + k.toNat, none⟩) | none => undef

set_option maxRecDepth 100000 in
set_option maxHeartbeats 1600000 in
theorem valid_any (l : Lb) (ad : Option Addr) (nd c : Nat) (w : World) (h : Sl w 1 ad nd c (bb l.dead)) (hok : l.ok) :
    Calls Try.prog 22 #[l.agg ad nd c] w fun e w' => e = .returned (.bool (decide l.valid)) ∧ Below w.heap.size w w' := by
  have HO := Lib.hid hok
  have HH := Lib.hid h
  have HN := Lib.hid (show nd = l.dead.length by have := h.len; rw [bb_length, Nat.mul_one] at this; omega)
  have HCAP := Lib.hid h.cap
  clear h hok
  unfold Lb.agg
  go_enter Try.func22, Try.ntmps22
  refine wp_seq_k (fun K hK => ?_)
  refine Lin.begin ?_
  refine Lin.takeW 1 rfl rfl (by go_simp; exact ⟨rfl, rfl⟩) (by simp only [Act.put, List.setIfInBounds_toArray, List.set_cons_zero, List.set_cons_succ] <;> rfl) ?_
  intro w1 hw1
  obtain ⟨g, hg⟩ : ∃ g, g = w.heap.size := ⟨_, rfl⟩
  have L1 : LbAt l ad nd c g w1 := by rw [hw1, hg]; exact LbAt.new l ad nd c 32 w
  have HB1 : Hid (Below w.heap.size w w1) := by rw [hw1]; exact Lib.hid ((Below.refl w.heap.size w).alloc (Nat.le_refl _) _)
  have hz1 : w.heap.size ≤ w1.heap.size := HB1.out.size
  have hg1 : g < w1.heap.size := by rw [hw1, hg]; simp
  rw [← hg]
  have HG := Lib.hid hg
  obtain ⟨C, hC⟩ : ∃ C, C = decide (cfgOk l.cd l.cw l.ct l.cs l.gr l.gb l.gt l.gs l.go l.ca l.cl) := ⟨_, rfl⟩
  have HC0 := Lib.hid hC
  clear hC
  clear hw1 hg
  refine Lin.take 2 rfl rfl (by go_simp <;> with_reducible rfl) (by simp only [Act.put, List.setIfInBounds_toArray, List.set_cons_zero, List.set_cons_succ] <;> rfl) ?_
  refine Lin.done (hK _ _ ?_)
  clear hK K
  refine wp_seq_k (fun K1 hK1 => ?_)
  refine wp_seq_k (fun K hK => ?_)
  refine Lin.begin ?_
  refine Lin.take 3 rfl rfl (by go_simp <;> with_reducible rfl) (by simp only [Act.put, List.setIfInBounds_toArray, List.set_cons_zero, List.set_cons_succ] <;> rfl) ?_
  refine Lin.take 4 rfl rfl (by obtain ⟨k0, k1, k2, k3, k4, k5, k6, k7, k8, k9, k10, k11, k12, k13, k14, k15, k16, k17, k18⟩ := id L1; go_simp <;> with_reducible rfl) (by simp only [Act.put, List.setIfInBounds_toArray, List.set_cons_zero, List.set_cons_succ] <;> rfl) ?_
  refine Lin.enter 5 rfl rfl (by go_simp <;> exact ⟨rfl, rfl⟩) (v := .bool C) (by rw [HC0.out]; exact cfgValid_any l.cd l.cw l.ct l.cs l.gr l.gb l.gt l.gs l.go l.ca l.cl _ HO.out.ca0 HO.out.ca1 HO.out.cl0 HO.out.cl1) (by simp only [Act.put, List.setIfInBounds_toArray, List.set_cons_zero, List.set_cons_succ] <;> rfl) ?_
  intro w2 hb2
  have HB2 := Lib.hid (HB1.out.trans (hb2.mono hz1)); have L2 := L1.below hb2 hg1; have hg2 : g < w2.heap.size := Nat.lt_of_lt_of_le hg1 hb2.size
  obtain ⟨k0, k1, k2, k3, k4, k5, k6, k7, k8, k9, k10, k11, k12, k13, k14, k15, k16, k17, k18⟩ := id L2; have HL2 := Lib.hid L2; clear L1 L2 hb2
  refine Lin.take 6 (v := .bool (!C)) rfl rfl (by go_simp <;> with_reducible rfl) (by simp only [Act.put, List.setIfInBounds_toArray, List.set_cons_zero, List.set_cons_succ] <;> rfl) ?_
  refine Lin.bool 7 (x := (!C)) rfl rfl (by go_simp <;> with_reducible rfl) ?_
  intro B7 hB7 aa ha; simp only [Act.put, List.setIfInBounds_toArray, List.set_cons_zero, List.set_cons_succ] at ha; subst ha; replace hB7 := Lib.hid hB7
  refine Lin.may 8 (!B7) (by cases B7 <;> kernel_rfl) rfl (by intro hc; (try simp only [hc, gv_true]); go_simp <;> with_reducible rfl) (by simp only [Act.put, List.setIfInBounds_toArray, List.set_cons_zero, List.set_cons_succ] <;> rfl) ?_
  refine Lin.may 9 (!B7) (by cases B7 <;> kernel_rfl) rfl (by intro hc; (try simp only [hc, gv_true]); go_simp <;> with_reducible rfl) (by simp only [Act.put, List.setIfInBounds_toArray, List.set_cons_zero, List.set_cons_succ] <;> rfl) ?_
  refine Lin.may 10 (!B7) (by cases B7 <;> kernel_rfl) rfl (by intro hc; (try simp only [hc, gv_true]); go_simp <;> with_reducible rfl) (by simp only [Act.put, List.setIfInBounds_toArray, List.set_cons_zero, List.set_cons_succ] <;> rfl) ?_
  refine Lin.or 11 7 10 rfl rfl rfl rfl rfl ?_
  intro B11 hB11 aa ha; simp only [Act.put, List.setIfInBounds_toArray, List.set_cons_zero, List.set_cons_succ] at ha; subst ha; replace hB11 := Lib.hid hB11
  refine Lin.take 12 rfl rfl (by go_simp <;> with_reducible rfl) (by simp only [Act.put, List.setIfInBounds_toArray, List.set_cons_zero, List.set_cons_succ] <;> rfl) ?_
  refine Lin.may 13 (!B11) (by cases B11 <;> kernel_rfl) rfl (by intro hc; (try simp only [hc, gv_true]); go_simp <;> with_reducible rfl) (by simp only [Act.put, List.setIfInBounds_toArray, List.set_cons_zero, List.set_cons_succ] <;> rfl) ?_
  refine Lin.may 14 (!B11) (by cases B11 <;> kernel_rfl) rfl (by intro hc; (try simp only [hc, gv_true]); go_simp <;> with_reducible rfl) (by simp only [Act.put, List.setIfInBounds_toArray, List.set_cons_zero, List.set_cons_succ] <;> rfl) ?_
  refine Lin.may 15 (!B11) (by cases B11 <;> kernel_rfl) rfl (by intro hc; (try simp only [hc, gv_true]); go_simp <;> with_reducible rfl) (by simp only [Act.put, List.setIfInBounds_toArray, List.set_cons_zero, List.set_cons_succ] <;> rfl) ?_
  refine Lin.may 16 (!B11) (by cases B11 <;> kernel_rfl) rfl (by intro hc; (try simp only [hc, gv_true]); go_simp <;> with_reducible rfl) (by simp only [Act.put, List.setIfInBounds_toArray, List.set_cons_zero, List.set_cons_succ] <;> rfl) ?_
  refine Lin.may 17 (!B11) (by cases B11 <;> kernel_rfl) rfl (by intro hc; (try simp only [hc, gv_true]); go_simp <;> with_reducible rfl) (by simp only [Act.put, List.setIfInBounds_toArray, List.set_cons_zero, List.set_cons_succ] <;> rfl) ?_
  refine Lin.may 18 (!B11) (by cases B11 <;> kernel_rfl) rfl (by intro hc; (try simp only [hc, gv_true]); go_simp <;> with_reducible rfl) (by simp only [Act.put, List.setIfInBounds_toArray, List.set_cons_zero, List.set_cons_succ] <;> rfl) ?_
  refine Lin.or 19 12 18 rfl rfl rfl rfl rfl ?_
  intro B19 hB19 aa ha; simp only [Act.put, List.setIfInBounds_toArray, List.set_cons_zero, List.set_cons_succ] at ha; subst ha; replace hB19 := Lib.hid hB19
  refine Lin.take 20 rfl rfl (by go_simp <;> with_reducible rfl) (by simp only [Act.put, List.setIfInBounds_toArray, List.set_cons_zero, List.set_cons_succ] <;> rfl) ?_
  refine Lin.may 21 (!B19) (by cases B19 <;> kernel_rfl) rfl (by intro hc; (try simp only [hc, gv_true]); go_simp <;> with_reducible rfl) (by simp only [Act.put, List.setIfInBounds_toArray, List.set_cons_zero, List.set_cons_succ] <;> rfl) ?_
  refine Lin.may 22 (!B19) (by cases B19 <;> kernel_rfl) rfl (by intro hc; (try simp only [hc, gv_true]); go_simp <;> with_reducible rfl) (by simp only [Act.put, List.setIfInBounds_toArray, List.set_cons_zero, List.set_cons_succ] <;> rfl) ?_
  refine Lin.may 23 (!B19) (by cases B19 <;> kernel_rfl) rfl (by intro hc; (try simp only [hc, gv_true]); go_simp <;> with_reducible rfl) (by simp only [Act.put, List.setIfInBounds_toArray, List.set_cons_zero, List.set_cons_succ] <;> rfl) ?_
  refine Lin.or 24 20 23 rfl rfl rfl rfl rfl ?_
  intro B24 hB24 aa ha; simp only [Act.put, List.setIfInBounds_toArray, List.set_cons_zero, List.set_cons_succ] at ha; subst ha; replace hB24 := Lib.hid hB24
  refine Lin.take 25 rfl rfl (by go_simp <;> with_reducible rfl) (by simp only [Act.put, List.setIfInBounds_toArray, List.set_cons_zero, List.set_cons_succ] <;> rfl) ?_
  refine Lin.may 26 (!B24) (by cases B24 <;> kernel_rfl) rfl (by intro hc; (try simp only [hc, gv_true]); go_simp <;> with_reducible rfl) (by simp only [Act.put, List.setIfInBounds_toArray, List.set_cons_zero, List.set_cons_succ] <;> rfl) ?_
  refine Lin.may 27 (!B24) (by cases B24 <;> kernel_rfl) rfl (by intro hc; (try simp only [hc, gv_true]); go_simp <;> with_reducible rfl) (by simp only [Act.put, List.setIfInBounds_toArray, List.set_cons_zero, List.set_cons_succ] <;> rfl) ?_
  refine Lin.may 28 (!B24) (by cases B24 <;> kernel_rfl) rfl (by intro hc; (try simp only [hc, gv_true]); go_simp <;> with_reducible rfl) (by simp only [Act.put, List.setIfInBounds_toArray, List.set_cons_zero, List.set_cons_succ] <;> rfl) ?_
  refine Lin.or 29 25 28 rfl rfl rfl rfl rfl ?_
  intro B29 hB29 aa ha; simp only [Act.put, List.setIfInBounds_toArray, List.set_cons_zero, List.set_cons_succ] at ha; subst ha; replace hB29 := Lib.hid hB29
  refine Lin.take 30 rfl rfl (by go_simp <;> with_reducible rfl) (by simp only [Act.put, List.setIfInBounds_toArray, List.set_cons_zero, List.set_cons_succ] <;> rfl) ?_
  refine Lin.may 31 (!B29) (by cases B29 <;> kernel_rfl) rfl (by intro hc; (try simp only [hc, gv_true]); go_simp <;> with_reducible rfl) (by simp only [Act.put, List.setIfInBounds_toArray, List.set_cons_zero, List.set_cons_succ] <;> rfl) ?_
  refine Lin.may 32 (!B29) (by cases B29 <;> kernel_rfl) rfl (by intro hc; (try simp only [hc, gv_true]); go_simp <;> with_reducible rfl) (by simp only [Act.put, List.setIfInBounds_toArray, List.set_cons_zero, List.set_cons_succ] <;> rfl) ?_
  refine Lin.may 33 (!B29) (by cases B29 <;> kernel_rfl) rfl (by intro hc; (try simp only [hc, gv_true]); go_simp <;> with_reducible rfl) (by simp only [Act.put, List.setIfInBounds_toArray, List.set_cons_zero, List.set_cons_succ] <;> rfl) ?_
  refine Lin.may 34 (!B29) (by cases B29 <;> kernel_rfl) rfl (by intro hc; (try simp only [hc, gv_true]); go_simp <;> with_reducible rfl) (by simp only [Act.put, List.setIfInBounds_toArray, List.set_cons_zero, List.set_cons_succ] <;> rfl) ?_
  refine Lin.may 35 (!B29) (by cases B29 <;> kernel_rfl) rfl (by intro hc; (try simp only [hc, gv_true]); go_simp <;> with_reducible rfl) (by simp only [Act.put, List.setIfInBounds_toArray, List.set_cons_zero, List.set_cons_succ] <;> rfl) ?_
  refine Lin.or 36 30 35 rfl rfl rfl rfl rfl ?_
  intro B36 hB36 aa ha; simp only [Act.put, List.setIfInBounds_toArray, List.set_cons_zero, List.set_cons_succ] at ha; subst ha; replace hB36 := Lib.hid hB36
  refine Lin.done (hK _ _ ?_)
  refine wp_cond_split rfl (fun ht => ?_) (fun hf => ?_)
  · refine wp_seq_k (fun K2 hK2 => ?_)
    refine Lin.begin ?_
    refine Lin.take 2 rfl rfl (by go_simp <;> with_reducible rfl) (by simp only [Act.put, List.setIfInBounds_toArray, List.set_cons_zero, List.set_cons_succ] <;> rfl) ?_
    refine Lin.done (hK2 _ _ ?_)
    refine wp_ret ?_
    simp only [Exit.then]
    refine bodyPost_ret (results_tmp rfl _ _ _) rfl ?_
    refine ⟨?_, HB2.out⟩
    rw [hB36.out, hB29.out, hB24.out, hB19.out, hB11.out, hB7.out, HC0.out] at ht
    simp only [Bool.or_eq_true, Bool.not_eq_true', decide_eq_true_eq, decide_eq_false_iff_not] at ht
    have hnv : ¬ l.valid := by
      rintro ⟨h1, h2, h3, h4, h5, h6, -⟩
      have h1' : cfgOk l.cd l.cw l.ct l.cs l.gr l.gb l.gt l.gs l.go l.ca l.cl := h1
      have := ht.resolve_right (by omega) |>.resolve_right (by omega) |>.resolve_right (by omega) |>.resolve_right (by omega) |>.resolve_right (by omega)
      exact this h1'
    rw [decide_eq_false hnv]
    rfl
  have HQ : Hid (l.cfg ∧ 0 ≤ l.dk ∧ l.dk < l.cd ∧ 1 ≤ l.gen ∧ l.gen < 4294967296 ∧ l.prev < l.gen) := by
    rw [hB36.out, hB29.out, hB24.out, hB19.out, hB11.out, hB7.out, HC0.out] at hf
    simp only [Bool.or_eq_false_iff, Bool.not_eq_false', decide_eq_true_eq, decide_eq_false_iff_not] at hf
    obtain ⟨⟨⟨⟨⟨h1, h2⟩, h3⟩, h4⟩, h5⟩, h6⟩ := hf
    exact Lib.hid ⟨h1, by omega, by omega, by omega, by omega, by omega⟩
  clear hf hB36 hB29 hB24 hB19 hB11 hB7 HC0
  refine wp_skip ?_
  refine hK1 _ _ ?_
  refine wp_seq_k (fun K2 hK2 => ?_)
  refine Lin.begin ?_
  refine Lin.take 37 rfl rfl (by go_simp <;> with_reducible rfl) (by simp only [Act.put, List.setIfInBounds_toArray, List.set_cons_zero, List.set_cons_succ] <;> rfl) ?_
  refine Lin.take 38 rfl rfl (by go_simp <;> with_reducible rfl) (by simp only [Act.put, List.setIfInBounds_toArray, List.set_cons_zero, List.set_cons_succ] <;> rfl) ?_
  refine Lin.take 39 rfl rfl (by go_simp <;> with_reducible rfl) (by simp only [Act.put, List.setIfInBounds_toArray, List.set_cons_zero, List.set_cons_succ] <;> rfl) ?_
  refine Lin.take 40 rfl rfl (by go_simp <;> with_reducible rfl) (by simp only [Act.put, List.setIfInBounds_toArray, List.set_cons_zero, List.set_cons_succ] <;> rfl) ?_
  refine Lin.take 41 rfl rfl (by go_simp <;> with_reducible rfl) (by simp only [Act.put, List.setIfInBounds_toArray, List.set_cons_zero, List.set_cons_succ] <;> rfl) ?_
  refine Lin.take 42 rfl rfl (by go_simp <;> with_reducible rfl) (by simp only [Act.put, List.setIfInBounds_toArray, List.set_cons_zero, List.set_cons_succ] <;> rfl) ?_
  refine Lin.take 43 rfl rfl (by go_simp <;> with_reducible rfl) (by simp only [Act.put, List.setIfInBounds_toArray, List.set_cons_zero, List.set_cons_succ] <;> rfl) ?_
  refine Lin.bool 44 rfl rfl (by go_simp <;> with_reducible rfl) ?_
  intro B44 hB44 aa ha; simp only [Act.put, List.setIfInBounds_toArray, List.set_cons_zero, List.set_cons_succ] at ha; subst ha; replace hB44 := Lib.hid hB44
  refine Lin.mid 45 B44 32 _ g 0 (l.arrv ad nd c).toList _ (by cases B44 <;> kernel_rfl) rfl rfl (fun _ => rfl) HL2.out.range Try.underlying32 rfl (by kernel_rfl) (by simp only [Act.put, List.setIfInBounds_toArray, List.set_cons_zero, List.set_cons_succ] <;> rfl) ?_
  refine Lin.mayEnter 46 B44 (v := .int .i64 (l.dead.count true : Int)) (S := Below w2.heap.size w2) (by cases B44 <;> kernel_rfl) rfl (by intro hc; (try simp only [hc, gv_true]); go_simp <;> (first | exact ⟨rfl, rfl⟩ | rfl)) (fun hc => (dead_any l ad nd c _ (HH.out.below HB2.out) HO.out.short)) (fun _ => Below.refl _ _) (by simp only [Act.put, List.setIfInBounds_toArray, List.set_cons_zero, List.set_cons_succ] <;> rfl) ?_
  intro w3 hb3
  have HB3 := Lib.hid (HB2.out.trans (hb3.mono HB2.out.size)); have L3 := HL2.out.below hb3 hg2
  clear k0 k1 k2 k3 k4 k5 k6 k7 k8 k9 k10 k11 k12 k13 k14 k15 k16 k17 k18; obtain ⟨k0, k1, k2, k3, k4, k5, k6, k7, k8, k9, k10, k11, k12, k13, k14, k15, k16, k17, k18⟩ := id L3; clear L3 hb3
  refine Lin.may 47 B44 (by cases B44 <;> kernel_rfl) rfl (by intro hc; (try simp only [hc, gv_true]); go_simp <;> with_reducible rfl) (by simp only [Act.put, List.setIfInBounds_toArray, List.set_cons_zero, List.set_cons_succ] <;> rfl) ?_
  refine Lin.and 48 44 47 rfl rfl rfl rfl rfl ?_
  intro B48 hB48 aa ha; simp only [Act.put, List.setIfInBounds_toArray, List.set_cons_zero, List.set_cons_succ] at ha; subst ha; replace hB48 := Lib.hid hB48
  refine Lin.take 49 rfl rfl (by go_simp <;> with_reducible rfl) (by simp only [Act.put, List.setIfInBounds_toArray, List.set_cons_zero, List.set_cons_succ] <;> rfl) ?_
  refine Lin.may 50 B48 (by cases B48 <;> kernel_rfl) rfl (by intro hc; (try simp only [hc, gv_true]); go_simp <;> with_reducible rfl) (by simp only [Act.put, List.setIfInBounds_toArray, List.set_cons_zero, List.set_cons_succ] <;> rfl) ?_
  refine Lin.may 51 B48 (by cases B48 <;> kernel_rfl) rfl (by intro hc; (try simp only [hc, gv_true]); go_simp <;> with_reducible rfl) (by simp only [Act.put, List.setIfInBounds_toArray, List.set_cons_zero, List.set_cons_succ] <;> rfl) ?_
  refine Lin.may 52 B48 (by cases B48 <;> kernel_rfl) rfl (by intro hc; (try simp only [hc, gv_true]); go_simp <;> with_reducible rfl) (by simp only [Act.put, List.setIfInBounds_toArray, List.set_cons_zero, List.set_cons_succ] <;> rfl) ?_
  refine Lin.may 53 B48 (by cases B48 <;> kernel_rfl) rfl (by intro hc; (try simp only [hc, gv_true]); go_simp <;> with_reducible rfl) (by simp only [Act.put, List.setIfInBounds_toArray, List.set_cons_zero, List.set_cons_succ] <;> rfl) ?_
  refine Lin.may 54 B48 (v := ixv ad l.dk) (by cases B48 <;> kernel_rfl) rfl (by intro hc; (try simp only [hc, gv_true]); have hx : l.dk < nd ∧ 0 ≤ l.dk := (by have hq := HQ.out; have h1 := hB48.out; have h2 := hB44.out; rw [h1, h2] at hc; simp only [Bool.and_eq_true, decide_eq_true_eq, beq_iff_eq] at hc; omega); have hn := HN.out; obtain ⟨b, off, rfl, hcell⟩ := (HH.out.below HB3.out).at (k := l.dk.toNat) (by rw [bb_length]; omega); have hx1 := hx.1; have hx0 := hx.2; have hcap := HCAP.out; simp only [ixv]; clear hn; go_simp <;> (intros; omega)) (by simp only [Act.put, List.setIfInBounds_toArray, List.set_cons_zero, List.set_cons_succ] <;> rfl) ?_
  refine Lin.may 55 B48 (v := .bool ((l.dead[l.dk.toNat]?).getD true)) (by cases B48 <;> kernel_rfl) rfl (by intro hc; (try simp only [hc, gv_true]); have hx : l.dk < nd ∧ 0 ≤ l.dk := (by have hq := HQ.out; have h1 := hB48.out; have h2 := hB44.out; rw [h1, h2] at hc; simp only [Bool.and_eq_true, decide_eq_true_eq, beq_iff_eq] at hc; omega); have hn := HN.out; obtain ⟨b, off, rfl, hcell⟩ := (HH.out.below HB3.out).at (k := l.dk.toNat) (by rw [bb_length]; omega); have hk := hcell l.dk.toNat (by rw [bb_length]; omega); simp only [ixv]; simp only [bb, List.getElem_map] at hk; rw [List.getElem?_eq_getElem (by omega : l.dk.toNat < l.dead.length)]; clear hcell; go_simp) (by simp only [Act.put, List.setIfInBounds_toArray, List.set_cons_zero, List.set_cons_succ] <;> rfl) ?_
  refine Lin.may 56 B48 (by cases B48 <;> kernel_rfl) rfl (by intro hc; (try simp only [hc, gv_true]); go_simp <;> with_reducible rfl) (by simp only [Act.put, List.setIfInBounds_toArray, List.set_cons_zero, List.set_cons_succ] <;> rfl) ?_
  refine Lin.and 57 49 56 rfl rfl rfl rfl rfl ?_
  intro B57 hB57 aa ha; simp only [Act.put, List.setIfInBounds_toArray, List.set_cons_zero, List.set_cons_succ] at ha; subst ha; replace hB57 := Lib.hid hB57
  refine Lin.take 58 rfl rfl (by go_simp <;> with_reducible rfl) (by simp only [Act.put, List.setIfInBounds_toArray, List.set_cons_zero, List.set_cons_succ] <;> rfl) ?_
  refine Lin.may 59 B57 (by cases B57 <;> kernel_rfl) rfl (by intro hc; (try simp only [hc, gv_true]); go_simp <;> with_reducible rfl) (by simp only [Act.put, List.setIfInBounds_toArray, List.set_cons_zero, List.set_cons_succ] <;> rfl) ?_
  refine Lin.may 60 B57 (by cases B57 <;> kernel_rfl) rfl (by intro hc; (try simp only [hc, gv_true]); go_simp <;> with_reducible rfl) (by simp only [Act.put, List.setIfInBounds_toArray, List.set_cons_zero, List.set_cons_succ] <;> rfl) ?_
  refine Lin.may 61 B57 (by cases B57 <;> kernel_rfl) rfl (by intro hc; (try simp only [hc, gv_true]); go_simp <;> with_reducible rfl) (by simp only [Act.put, List.setIfInBounds_toArray, List.set_cons_zero, List.set_cons_succ] <;> rfl) ?_
  refine Lin.and 62 58 61 rfl rfl rfl rfl rfl ?_
  intro B62 hB62 aa ha; simp only [Act.put, List.setIfInBounds_toArray, List.set_cons_zero, List.set_cons_succ] at ha; subst ha; replace hB62 := Lib.hid hB62
  refine Lin.take 63 rfl rfl (by go_simp <;> with_reducible rfl) (by simp only [Act.put, List.setIfInBounds_toArray, List.set_cons_zero, List.set_cons_succ] <;> rfl) ?_
  refine Lin.may 64 B62 (by cases B62 <;> kernel_rfl) rfl (by intro hc; (try simp only [hc, gv_true]); go_simp <;> with_reducible rfl) (by simp only [Act.put, List.setIfInBounds_toArray, List.set_cons_zero, List.set_cons_succ] <;> rfl) ?_
  refine Lin.may 65 B62 (by cases B62 <;> kernel_rfl) rfl (by intro hc; (try simp only [hc, gv_true]); go_simp <;> with_reducible rfl) (by simp only [Act.put, List.setIfInBounds_toArray, List.set_cons_zero, List.set_cons_succ] <;> rfl) ?_
  refine Lin.may 66 B62 (by cases B62 <;> kernel_rfl) rfl (by intro hc; (try simp only [hc, gv_true]); go_simp <;> with_reducible rfl) (by simp only [Act.put, List.setIfInBounds_toArray, List.set_cons_zero, List.set_cons_succ] <;> rfl) ?_
  refine Lin.and 67 63 66 rfl rfl rfl rfl rfl ?_
  intro B67 hB67 aa ha; simp only [Act.put, List.setIfInBounds_toArray, List.set_cons_zero, List.set_cons_succ] at ha; subst ha; replace hB67 := Lib.hid hB67
  refine Lin.take 2 rfl rfl (by go_simp <;> with_reducible rfl) (by simp only [Act.put, List.setIfInBounds_toArray, List.set_cons_zero, List.set_cons_succ] <;> rfl) ?_
  refine Lin.done (hK2 _ _ ?_)
  refine wp_ret ?_
  refine bodyPost_ret (results_tmp rfl _ _ _) rfl ⟨?_, HB3.out⟩
  have hval : B67 = decide l.valid := by
    rw [hB67.out, hB62.out, hB57.out, hB48.out, hB44.out]
    have hq := HQ.out
    have hn := HN.out
    have hbit : ∀ o : Option Bool, (!(o.getD true)) = decide (o = some false) := by intro o; rcases o with _ | _ | _ <;> rfl
    rw [Bool.eq_iff_iff, decide_eq_true_iff (p := l.valid)]
    simp only [hbit, Bool.and_eq_true, decide_eq_true_eq, beq_iff_eq]
    constructor
    · rintro ⟨⟨⟨⟨h1, h2⟩, h3⟩, h4⟩, h5⟩
      exact ⟨hq.1, hq.2.1, hq.2.2.1, hq.2.2.2.1, hq.2.2.2.2.1, hq.2.2.2.2.2, by omega, by omega, h3, h4, h5⟩
    · rintro ⟨-, -, -, -, -, -, h1, h2, h3, h4, h5⟩
      exact ⟨⟨⟨⟨by omega, by omega⟩, h3⟩, h4⟩, h5⟩
  rw [← hval]
  rfl

end Go.Proofs.Ytgpfjinkmagelaa
