/- ElectionInterrupted: for every label the law returns true. (Printed by el15.py.) -/
import Derived.Test.YtgpfjinkmagelaaLawEMissing
import Derived.Test.YtgpfjinkmagelaaElV
import Derived.Test.YtgpfjinkmagelaaMay
set_option linter.unusedVariables false
set_option linter.unusedSimpArgs false
namespace Go.Proofs.Ytgpfjinkmagelaa
open Go Go.RowKit Go.Lib

section
variable {P : Program} {ops : Array Oper} {Q : Exit → Act → World → Prop} {md : Region.Mode}
/-- An operation that the guards leave out, under one condition. -/
theorem RestS.skip {S : World → Prop} (i d : Nat) {a' : Act} {oi : Oper} {fuel : Nat} {listed : Array Bool} {a : Act} {w : World} (hi : ops[i]? = some oi)
    (hs : Region.noSelect ops = true) (hf : Region.free md ops listed i = true) (hr : (Region.ready md ops listed).contains i = true)
    (hQ : ∀ c a w, Q (.panic c) (a.put oi.dst undef) w → Q (.panic c) a w) (hw : Region.wanted oi (yielded ops a.tmps) = false)
    (hd : oi.dst = some d) (ha : a.put (some d) undef = a') (hS : S w)
    (h : wpAnyH P md ops Q S fuel (listed.setIfInBounds i true) a' w) : wpAnyH P md ops Q S (fuel + 1) listed a w :=
  wpAnyH_take hi hs hf hr hQ (.inr ⟨hw, rfl⟩) hS (by rw [hd, ha]; exact h)
end

/-- The disks out of service, while they are gathered. -/
def ddF (l : Lb) (lo : List Bool) (d : Nat) : List Bool := (List.range d).map (fun i => l.dead.getD i false || lo.getD i false) ++ l.dead.drop d
theorem bb_set (l : List Bool) (i : Nat) (v : Bool) : (bb l).set i (.bool v) = bb (l.set i v) := by
  unfold bb
  rw [List.map_set]
theorem getD_lt {l : List Bool} {d : Nat} (h : d < l.length) : l.getD d false = l[d] := by rw [List.getD_eq_getElem?_getD, List.getElem?_eq_getElem h]; rfl
theorem ddF_get {l : Lb} {lo : List Bool} {d : Nat} (h : d < l.dead.length) : (bb (ddF l lo d))[d]? = some (.bool l.dead[d]) := by
  unfold bb ddF
  rw [List.getElem?_map, List.getElem?_append_right (by simp)]
  simp [List.getElem?_drop, h]
theorem ddF_set {l : Lb} {lo : List Bool} {d : Nat} (h : d < l.dead.length) (h' : d < lo.length) : (ddF l lo d).set d (l.dead[d] || lo[d]) = ddF l lo (d + 1) := by
  unfold ddF
  rw [List.set_append_right _ _ (by simp), List.length_map, List.length_range, Nat.sub_self, List.drop_eq_getElem_cons h, List.set_cons_zero, List.range_succ, List.map_append, List.append_assoc]
  simp [getD_lt h, getD_lt h', h, h']
theorem ddF_next {l : Lb} {lo : List Bool} {d : Nat} (h : d < l.dead.length) (h' : d < lo.length) : (bb (ddF l lo (d + 1)))[d]? = some (.bool (l.dead[d] || lo[d])) := by
  rw [← ddF_set h h', ← bb_set, List.getElem?_set_self]
  rw [bb_length]
  unfold ddF
  simp
  omega
theorem ddF_take {l : Lb} {lo : List Bool} {nd d : Nat} (h : d ≤ nd) : (ddF l lo nd).take d = (List.range d).map (fun i => l.dead.getD i false || lo.getD i false) := by
  unfold ddF
  rw [List.take_append_of_le_length (by simp; omega), ← List.map_take, List.take_range, Nat.min_eq_left h]
theorem ddF_count {l : Lb} {lo : List Bool} {nd d : Nat} (h : d < l.dead.length) (h' : d < lo.length) (hd : d < nd) : ((ddF l lo nd).take (d + 1)).count true = ((ddF l lo nd).take d).count true + if (l.dead[d] || lo[d]) = true then 1 else 0 := by
  rw [ddF_take (by omega), ddF_take (by omega), List.range_succ, List.map_append, List.count_append]
  congr 1
  rw [List.map_singleton, getD_lt h, getD_lt h']
  cases (l.dead[d] || lo[d]) <;> rfl

set_option maxRecDepth 100000 in
set_option maxHeartbeats 3200000 in
theorem electionInterrupted_walk (l : Lb) (ad : Option Addr) (nd c : Nat) (an : Option Addr) (nn cn : Nat) (dn : List Bool) (aq : Option Addr) (ns cs : Nat) (lo : List Bool) (x : Int) (w : World) (h : Sl w 1 ad nd c (bb l.dead)) (hnum : l.num) (hn : Sl w 1 an nn cn (bb dn)) (hl : Sl w 1 aq ns cs (bb lo)) (hx0 : 0 ≤ x) (hx1 : x < 18446744073709551616) :
    Calls Try.prog 6 #[.agg (l.arrv ad nd c), .slice an nn cn, .slice aq ns cs, .int .u64 x] w fun e w' => e = .returned (.bool true) ∧ Below w.heap.size w w' := by
  have HS := Lib.hid h
  have HD := Lib.hid hn
  have HO := Lib.hid hl
  have HNUM := Lib.hid hnum
  have HNL : Hid (l.dead.length = nd) := by have := h.len; rw [bb_length] at this; exact Lib.hid (by omega)
  have HDL : Hid (dn.length = nn) := by have := hn.len; rw [bb_length] at this; exact Lib.hid (by omega)
  have HOL : Hid (lo.length = ns) := by have := hl.len; rw [bb_length] at this; exact Lib.hid (by omega)
  obtain ⟨V, hV⟩ : ∃ V, V = decide l.valid := ⟨_, rfl⟩
  have HVG : Hid (V = true → 0 ≤ l.gen ∧ l.gen < 4294967296) := Lib.hid fun h9 => by
    rw [hV] at h9
    have := valid_dk (of_decide_eq_true h9)
    omega
  have HV := Lib.hid hV
  have HQU : Hid (IntKind.u64.wrap (x.tdiv 2) = x / 2) := by rw [Int.tdiv_eq_ediv_of_nonneg hx0]; exact Lib.hid (by simp [IntKind.wrap, IntKind.bits, IntKind.signed]; omega)
  clear h hn hl hnum hV
  unfold Lb.arrv
  go_enter Try.func6, Try.ntmps6
  refine wp_seq_k (fun K hK => ?_)
  refine Lin.begin ?_
  refine Lin.takeW 4 rfl rfl (by go_simp; exact ⟨rfl, rfl⟩) (by simp only [Act.put, List.setIfInBounds_toArray, List.set_cons_zero, List.set_cons_succ] <;> rfl) ?_
  intro w0 hw0
  obtain ⟨g, hg⟩ : ∃ g, g = w.heap.size := ⟨_, rfl⟩
  rw [← hg]
  have L0 : Hid (LbAt l ad nd c g w0) := by rw [hw0, hg]; exact Lib.hid (LbAt.new l ad nd c 32 w)
  have HB0 : Hid (Below w.heap.size w w0) := by rw [hw0]; exact Lib.hid ((Below.refl _ _).alloc (Nat.le_refl _) _)
  have hg0 : g < w0.heap.size := by rw [hw0, hg]; simp
  clear hw0 hg
  refine Lin.take 8 rfl rfl (by go_simp <;> with_reducible rfl) (by simp only [Act.put, List.setIfInBounds_toArray, List.set_cons_zero, List.set_cons_succ] <;> rfl) ?_
  refine Lin.done (hK _ _ ?_)
  clear hK K
  refine wp_seq_k (fun K1 hK1 => ?_)
  refine wp_seq_k (fun K hK => ?_)
  refine Lin.begin ?_
  refine Lin.enter 21 rfl rfl (by go_simp <;> (first | exact ⟨rfl, rfl⟩ | rfl)) (awake31_any w0) (by simp only [Act.put, List.setIfInBounds_toArray, List.set_cons_zero, List.set_cons_succ] <;> rfl) ?_
  intro w1 hb1
  have HB1 := Lib.hid (HB0.out.trans (hb1.mono HB0.out.size)); have L1 := Lib.hid (L0.out.below hb1 hg0); have hg1 : g < w1.heap.size := Nat.lt_of_lt_of_le hg0 hb1.size
  clear hb1
  refine Lin.take 22 rfl rfl (by go_simp <;> with_reducible rfl) (by simp only [Act.put, List.setIfInBounds_toArray, List.set_cons_zero, List.set_cons_succ] <;> rfl) ?_
  refine Lin.done (hK _ _ ?_)
  refine wp_cond_false rfl ?_
  refine wp_skip ?_
  refine hK1 _ _ ?_
  clear hK1 K1 hK K
  have HS1 := Lib.hid (HS.out.below HB1.out)
  have HD1 := Lib.hid (HD.out.below HB1.out)
  have HO1 := Lib.hid (HO.out.below HB1.out)
  refine wp_seq_k (fun K1 hK1 => ?_)
  refine wp_seq_k (fun K hK => ?_)
  refine Lin.begin ?_
  refine Lin.take 23 rfl rfl (by go_simp <;> with_reducible rfl) (by simp only [Act.put, List.setIfInBounds_toArray, List.set_cons_zero, List.set_cons_succ] <;> rfl) ?_
  refine Lin.take 24 rfl rfl (by have hk := L1.out.k15; go_simp <;> with_reducible rfl) (by simp only [Act.put, List.setIfInBounds_toArray, List.set_cons_zero, List.set_cons_succ] <;> rfl) ?_
  refine Lin.take 25 rfl rfl (by go_simp <;> with_reducible rfl) (by simp only [Act.put, List.setIfInBounds_toArray, List.set_cons_zero, List.set_cons_succ] <;> rfl) ?_
  refine Lin.take 26 rfl rfl (by go_simp <;> with_reducible rfl) (by simp only [Act.put, List.setIfInBounds_toArray, List.set_cons_zero, List.set_cons_succ] <;> rfl) ?_
  refine Lin.bool 27 rfl rfl (by go_simp <;> with_reducible rfl) ?_
  intro B27 hB27 aa ha; simp only [Act.put, List.setIfInBounds_toArray, List.set_cons_zero, List.set_cons_succ] at ha; subst ha; replace hB27 := Lib.hid hB27
  refine Lin.mid 28 (!B27) 32 _ g 0 (l.arrv ad nd c).toList _ (by cases B27 <;> kernel_rfl) rfl rfl (fun hc => by (try simp only [hc, gv_true]); rfl) L1.out.range Try.underlying32 rfl (by kernel_rfl) (by simp only [Act.put, List.setIfInBounds_toArray, List.set_cons_zero, List.set_cons_succ] <;> rfl) ?_
  refine Lin.mayEnter 29 (!B27) (v := .bool V) (S := Below w1.heap.size w1) (by cases B27 <;> kernel_rfl) rfl (by intro hc; (try simp only [hc, gv_true]); go_simp <;> (first | exact ⟨rfl, rfl⟩ | rfl)) (fun hc => by rw [HV.out]; exact refValid_any l ad nd c w1 HS1.out (HNUM.out.ok (by rw [hB27.out] at hc; simp at hc; have := HNL.out; omega))) (fun _ => Below.refl _ _) (by simp only [Act.put, List.setIfInBounds_toArray, List.set_cons_zero, List.set_cons_succ] <;> rfl) ?_
  intro w2 hb2
  have HB2 := Lib.hid (HB1.out.trans (hb2.mono HB1.out.size)); have L2 := Lib.hid (L1.out.below hb2 hg1); have hg2 : g < w2.heap.size := Nat.lt_of_lt_of_le hg1 hb2.size; have HS2 := Lib.hid (HS1.out.below hb2); have HD2 := Lib.hid (HD1.out.below hb2); have HO2 := Lib.hid (HO1.out.below hb2)
  clear hb2
  refine Lin.may 30 (!B27) (v := .bool (!V)) (by cases B27 <;> kernel_rfl) rfl (by intro hc; (try simp only [hc, gv_true]); go_simp <;> with_reducible rfl) (by simp only [Act.put, List.setIfInBounds_toArray, List.set_cons_zero, List.set_cons_succ] <;> rfl) ?_
  refine Lin.or 31 27 30 rfl rfl rfl rfl rfl ?_
  intro B31 hB31 aa ha; simp only [Act.put, List.setIfInBounds_toArray, List.set_cons_zero, List.set_cons_succ] at ha; subst ha; replace hB31 := Lib.hid hB31
  refine Lin.take 32 rfl rfl (by go_simp <;> with_reducible rfl) (by simp only [Act.put, List.setIfInBounds_toArray, List.set_cons_zero, List.set_cons_succ] <;> rfl) ?_
  refine Lin.may 33 (!B31) (by cases B31 <;> kernel_rfl) rfl (by intro hc; (try simp only [hc, gv_true]); go_simp <;> with_reducible rfl) (by simp only [Act.put, List.setIfInBounds_toArray, List.set_cons_zero, List.set_cons_succ] <;> rfl) ?_
  refine Lin.may 34 (!B31) (by cases B31 <;> kernel_rfl) rfl (by intro hc; (try simp only [hc, gv_true]); have hk := L2.out.k2; go_simp <;> with_reducible rfl) (by simp only [Act.put, List.setIfInBounds_toArray, List.set_cons_zero, List.set_cons_succ] <;> rfl) ?_
  refine Lin.may 35 (!B31) (v := .int .u64 (l.gen + 1)) (by cases B31 <;> kernel_rfl) rfl (by intro hc; (try simp only [hc, gv_true]); have hv9 := HVG.out (by rw [hB31.out] at hc; simp at hc; exact hc.2); have h8 : IntKind.u64.wrap (l.gen + 1) = l.gen + 1 := (by simp [IntKind.wrap, IntKind.bits, IntKind.signed]; omega); go_simp <;> (first | with_reducible rfl | omega)) (by simp only [Act.put, List.setIfInBounds_toArray, List.set_cons_zero, List.set_cons_succ] <;> rfl) ?_
  refine Lin.may 36 (!B31) (v := .bool (decide (l.gen + 1 ≥ 4294967296))) (by cases B31 <;> kernel_rfl) rfl (by intro hc; (try simp only [hc, gv_true]); go_simp <;> rfl) (by simp only [Act.put, List.setIfInBounds_toArray, List.set_cons_zero, List.set_cons_succ] <;> rfl) ?_
  refine Lin.or 37 32 36 rfl rfl rfl rfl rfl ?_
  intro B37 hB37 aa ha; simp only [Act.put, List.setIfInBounds_toArray, List.set_cons_zero, List.set_cons_succ] at ha; subst ha; replace hB37 := Lib.hid hB37
  refine Lin.take 38 rfl rfl (by go_simp <;> with_reducible rfl) (by simp only [Act.put, List.setIfInBounds_toArray, List.set_cons_zero, List.set_cons_succ] <;> rfl) ?_
  refine Lin.may 39 (!B37) (by cases B37 <;> kernel_rfl) rfl (by intro hc; (try simp only [hc, gv_true]); go_simp <;> with_reducible rfl) (by simp only [Act.put, List.setIfInBounds_toArray, List.set_cons_zero, List.set_cons_succ] <;> rfl) ?_
  refine Lin.may 40 (!B37) (by cases B37 <;> kernel_rfl) rfl (by intro hc; (try simp only [hc, gv_true]); go_simp <;> with_reducible rfl) (by simp only [Act.put, List.setIfInBounds_toArray, List.set_cons_zero, List.set_cons_succ] <;> rfl) ?_
  refine Lin.may 41 (!B37) (by cases B37 <;> kernel_rfl) rfl (by intro hc; (try simp only [hc, gv_true]); go_simp <;> with_reducible rfl) (by simp only [Act.put, List.setIfInBounds_toArray, List.set_cons_zero, List.set_cons_succ] <;> rfl) ?_
  refine Lin.may 42 (!B37) (by cases B37 <;> kernel_rfl) rfl (by intro hc; (try simp only [hc, gv_true]); have hk := L2.out.k15; go_simp <;> with_reducible rfl) (by simp only [Act.put, List.setIfInBounds_toArray, List.set_cons_zero, List.set_cons_succ] <;> rfl) ?_
  refine Lin.may 43 (!B37) (by cases B37 <;> kernel_rfl) rfl (by intro hc; (try simp only [hc, gv_true]); go_simp <;> with_reducible rfl) (by simp only [Act.put, List.setIfInBounds_toArray, List.set_cons_zero, List.set_cons_succ] <;> rfl) ?_
  refine Lin.may 44 (!B37) (v := .bool (decide ((nn : Int) < nd))) (by cases B37 <;> kernel_rfl) rfl (by intro hc; (try simp only [hc, gv_true]); go_simp <;> rfl) (by simp only [Act.put, List.setIfInBounds_toArray, List.set_cons_zero, List.set_cons_succ] <;> rfl) ?_
  refine Lin.or 45 38 44 rfl rfl rfl rfl rfl ?_
  intro B45 hB45 aa ha; simp only [Act.put, List.setIfInBounds_toArray, List.set_cons_zero, List.set_cons_succ] at ha; subst ha; replace hB45 := Lib.hid hB45
  refine Lin.take 46 rfl rfl (by go_simp <;> with_reducible rfl) (by simp only [Act.put, List.setIfInBounds_toArray, List.set_cons_zero, List.set_cons_succ] <;> rfl) ?_
  refine Lin.may 47 (!B45) (by cases B45 <;> kernel_rfl) rfl (by intro hc; (try simp only [hc, gv_true]); go_simp <;> with_reducible rfl) (by simp only [Act.put, List.setIfInBounds_toArray, List.set_cons_zero, List.set_cons_succ] <;> rfl) ?_
  refine Lin.may 48 (!B45) (by cases B45 <;> kernel_rfl) rfl (by intro hc; (try simp only [hc, gv_true]); go_simp <;> with_reducible rfl) (by simp only [Act.put, List.setIfInBounds_toArray, List.set_cons_zero, List.set_cons_succ] <;> rfl) ?_
  refine Lin.may 49 (!B45) (by cases B45 <;> kernel_rfl) rfl (by intro hc; (try simp only [hc, gv_true]); go_simp <;> with_reducible rfl) (by simp only [Act.put, List.setIfInBounds_toArray, List.set_cons_zero, List.set_cons_succ] <;> rfl) ?_
  refine Lin.may 50 (!B45) (by cases B45 <;> kernel_rfl) rfl (by intro hc; (try simp only [hc, gv_true]); have hk := L2.out.k15; go_simp <;> with_reducible rfl) (by simp only [Act.put, List.setIfInBounds_toArray, List.set_cons_zero, List.set_cons_succ] <;> rfl) ?_
  refine Lin.may 51 (!B45) (by cases B45 <;> kernel_rfl) rfl (by intro hc; (try simp only [hc, gv_true]); go_simp <;> with_reducible rfl) (by simp only [Act.put, List.setIfInBounds_toArray, List.set_cons_zero, List.set_cons_succ] <;> rfl) ?_
  refine Lin.may 52 (!B45) (v := .bool (decide ((ns : Int) < nd))) (by cases B45 <;> kernel_rfl) rfl (by intro hc; (try simp only [hc, gv_true]); go_simp <;> rfl) (by simp only [Act.put, List.setIfInBounds_toArray, List.set_cons_zero, List.set_cons_succ] <;> rfl) ?_
  refine Lin.or 53 46 52 rfl rfl rfl rfl rfl ?_
  intro B53 hB53 aa ha; simp only [Act.put, List.setIfInBounds_toArray, List.set_cons_zero, List.set_cons_succ] at ha; subst ha; replace hB53 := Lib.hid hB53
  refine Lin.done (hK _ _ ?_)
  refine wp_cond_split rfl (fun ht => ?_) (fun hf => ?_)
  ·
    refine wp_seq_k (fun KE hKE => ?_)
    refine Lin.begin ?_
    refine Lin.take 8 (v := .bool true) rfl rfl (by go_simp <;> with_reducible rfl) (by simp only [Act.put, List.setIfInBounds_toArray, List.set_cons_zero, List.set_cons_succ] <;> rfl) ?_
    refine Lin.done (hKE _ _ ?_)
    refine wp_ret ?_
    (try simp only [Exit.then])
    refine bodyPost_ret (results_tmp rfl _ _ _) rfl ?_
    exact ⟨rfl, HB2.out⟩
  have hsm : nd ≤ 60 ∧ l.valid ∧ l.gen + 1 < 4294967296 ∧ nd ≤ nn ∧ nd ≤ ns := by
    rw [hB53.out, hB45.out, hB37.out, hB31.out, hB27.out, HV.out] at hf
    simp at hf
    obtain ⟨⟨⟨⟨f1, f2⟩, f3⟩, f4⟩, f5⟩ := hf
    exact ⟨by omega, f2, by omega, by omega, by omega⟩
  obtain ⟨hn60, hval, hgen, hnn, hns⟩ := hsm
  have HVAL := Lib.hid hval
  have HWR : Hid (IntKind.u64.wrap (l.gen + 1) = l.gen + 1) := by
    have := valid_dk hval
    exact Lib.hid (by simp [IntKind.wrap, IntKind.bits, IntKind.signed]; omega)
  clear hf hB53 hB45 hB37 hB31 hB27 hval
  generalize gv _ _ = u0
  generalize gv _ _ = u1
  generalize gv _ _ = u2
  generalize gv _ _ = u3
  generalize gv _ _ = u4
  generalize gv _ _ = u5
  generalize gv _ _ = u6
  generalize gv _ _ = u7
  generalize gv _ _ = u8
  generalize gv _ _ = u9
  generalize gv _ _ = u10
  generalize gv _ _ = u11
  generalize gv _ _ = u12
  generalize gv _ _ = u13
  generalize gv _ _ = u14
  generalize gv _ _ = u15
  generalize gv _ _ = u16
  generalize gv _ _ = u17
  refine wp_skip ?_
  refine hK1 _ _ ?_
  clear hK1 K1 hK K
  refine wp_seq_k (fun K hK => ?_)
  refine Lin.begin ?_
  refine Lin.mid 54 true 32 _ g 0 (l.arrv ad nd c).toList _ (by kernel_rfl) rfl rfl (fun _ => rfl) L2.out.range Try.underlying32 rfl (by kernel_rfl) (by simp only [Act.put, List.setIfInBounds_toArray, List.set_cons_zero, List.set_cons_succ] <;> rfl) ?_
  refine Lin.takeW 9 rfl rfl (by go_simp; exact ⟨rfl, rfl⟩) (by simp only [Act.put, List.setIfInBounds_toArray, List.set_cons_zero, List.set_cons_succ] <;> rfl) ?_
  intro z1 hz1
  obtain ⟨q, hq⟩ : ∃ q, q = w2.heap.size := ⟨_, rfl⟩
  rw [← hq]
  have hrow1 : z1.heap[q]? = some (.cells (lbz.arrv none 0 0) 32 (0, 0)) := by rw [hz1, hq]; exact heap_alloc_new _ _
  have hb1 : Below w2.heap.size w2 z1 := by rw [hz1]; exact (Below.refl _ _).alloc (Nat.le_refl _) _
  have hzs1 : z1.heap.size = q + 1 := by rw [hz1, hq]; simp
  have HQ := Lib.hid hq
  clear hz1 hq
  refine W_store_row 32 q (l.arrv ad nd c) 32 (lbz.arrv none 0 0) rfl rfl hrow1 (by kernel_rfl) rfl (arrv_one _ _ _ _) ?_
  simp only [Act.put]
  obtain ⟨w3, hw3⟩ : ∃ y0, y0 = z1.setRow q (l.arrv ad nd c) := ⟨_, rfl⟩
  rw [← hw3]
  have HR3 : Hid (w3.heap[q]? = some (.cells (l.arrv ad nd c) 32 (0, 0))) := by rw [hw3]; exact Lib.hid (setRow_at hrow1)
  have HZ3 : Hid (Below w2.heap.size w2 w3) := by rw [hw3]; exact Lib.hid (below_setRow hb1 (by have := HQ.out; omega) _)
  have hs3 : w3.heap.size = q + 1 := by rw [hw3]; simpa using hzs1
  have L3 := Lib.hid (L2.out.below HZ3.out hg2)
  clear hw3 hb1 hrow1 hzs1
  refine Lin.done (hK _ _ ?_)
  clear hK K
  refine wp_seq_k (fun K hK => ?_)
  have hKK := Lib.hid hK
  clear hK
  obtain ⟨z3, hz3⟩ : ∃ z3, z3 = w3.drew := ⟨_, rfl⟩
  have HR3d : Hid (z3.heap[q]? = some (.cells (l.arrv ad nd c) 32 (0, 0))) := by rw [hz3]; exact HR3
  have HZ3d : Hid (Below w2.heap.size w2 z3) := by rw [hz3]; exact Lib.hid HZ3.out.drew
  have hs3d : z3.heap.size = q + 1 := by rw [hz3]; exact hs3
  have HZD := Lib.hid hz3
  clear hz3
  have hSw : LbAt l ad nd c g z3 := L2.out.below HZ3d.out hg2
  refine RestS.begin (fun z => LbAt l ad nd c g z) 16 (by kernel_rfl) (by kernel_rfl) ?_
  rw [← HZD.out]
  refine RestS.take 0 55 rfl (by kernel_rfl) (by kernel_rfl) (by kernel_rfl) (fun _ _ _ h => h) (by rfl) (by rfl) (by intro zx hx; go_simp <;> with_reducible rfl) (by simp only [Act.put, List.setIfInBounds_toArray, List.set_cons_zero, List.set_cons_succ] <;> rfl) hSw ?_
  refine RestS.take 1 56 rfl (by kernel_rfl) (by kernel_rfl) (by kernel_rfl) (fun _ _ _ h => h) (by rfl) (by rfl) (by intro zx hx; have hk := (show LbAt _ _ _ _ _ _ from hx).k2; go_simp <;> with_reducible rfl) (by simp only [Act.put, List.setIfInBounds_toArray, List.set_cons_zero, List.set_cons_succ] <;> rfl) hSw ?_
  refine RestS.take 2 57 (v := .int .u64 (l.gen + 1)) rfl (by kernel_rfl) (by kernel_rfl) (by kernel_rfl) (fun _ _ _ h => h) (by rfl) (by rfl) (by intro zx hx; have h8 := HWR.out; go_simp <;> (first | with_reducible rfl | omega)) (by simp only [Act.put, List.setIfInBounds_toArray, List.set_cons_zero, List.set_cons_succ] <;> rfl) hSw ?_
  refine RestS.take 3 58 rfl (by kernel_rfl) (by kernel_rfl) (by kernel_rfl) (fun _ _ _ h => h) (by rfl) (by rfl) (by intro zx hx; go_simp <;> with_reducible rfl) (by simp only [Act.put, List.setIfInBounds_toArray, List.set_cons_zero, List.set_cons_succ] <;> rfl) hSw ?_
  refine RestS.take 4 59 rfl (by kernel_rfl) (by kernel_rfl) (by kernel_rfl) (fun _ _ _ h => h) (by rfl) (by rfl) (by intro zx hx; have hk := (show LbAt _ _ _ _ _ _ from hx).k2; go_simp <;> with_reducible rfl) (by simp only [Act.put, List.setIfInBounds_toArray, List.set_cons_zero, List.set_cons_succ] <;> rfl) hSw ?_
  refine RestS.take 5 60 rfl (by kernel_rfl) (by kernel_rfl) (by kernel_rfl) (fun _ _ _ h => h) (by rfl) (by rfl) (by intro zx hx; go_simp <;> with_reducible rfl) (by simp only [Act.put, List.setIfInBounds_toArray, List.set_cons_zero, List.set_cons_succ] <;> rfl) hSw ?_
  refine RestS.take 6 61 rfl (by kernel_rfl) (by kernel_rfl) (by kernel_rfl) (fun _ _ _ h => h) (by rfl) (by rfl) (by intro zx hx; go_simp <;> with_reducible rfl) (by simp only [Act.put, List.setIfInBounds_toArray, List.set_cons_zero, List.set_cons_succ] <;> rfl) hSw ?_
  refine RestS.take 7 62 (v := .int .u64 (x / 2)) rfl (by kernel_rfl) (by kernel_rfl) (by kernel_rfl) (fun _ _ _ h => h) (by rfl) (by rfl) (by intro zx hx; go_simp <;> exact HQU.out) (by simp only [Act.put, List.setIfInBounds_toArray, List.set_cons_zero, List.set_cons_succ] <;> rfl) hSw ?_
  refine RestS.take 8 63 rfl (by kernel_rfl) (by kernel_rfl) (by kernel_rfl) (fun _ _ _ h => h) (by rfl) (by rfl) (by intro zx hx; go_simp <;> with_reducible rfl) (by simp only [Act.put, List.setIfInBounds_toArray, List.set_cons_zero, List.set_cons_succ] <;> rfl) hSw ?_
  refine RestS.step 9 rfl (by kernel_rfl) (by rfl) (fun K hK => ?_)
  have hc := (LbAt.of HR3d.out).k2
  have hf := frozen_of_row z3 q 2 _ _ HR3d.out
  go_simp
  clear hc hf
  obtain ⟨z4, hzz⟩ : ∃ y0, y0 = z3.setCell ⟨q, 2, none⟩ (.int .u64 (l.gen + 1)) := ⟨_, rfl⟩
  rw [← hzz]
  have HQ4 : Hid (z4.heap[q]? = some (.cells (({ l with gen := l.gen + 1 } : Lb).arrv ad nd c) 32 (0, 0))) := by
    rw [hzz, heap_setCell_same z3 q 2 _ _ _ HR3d.out]
    exact Lib.hid rfl
  have HZz4 : Hid (Below w2.heap.size w2 z4) := by rw [hzz]; exact Lib.hid (HZ3d.out.setCell (p := ⟨q, 2, none⟩) (by rw [HQ.out]; exact Nat.le_refl _) _)
  have hsz4 : z4.heap.size = q + 1 := by rw [hzz]; simpa using hs3d
  replace hSw : LbAt l ad nd c g z4 := L2.out.below HZz4.out hg2
  refine hK.out _ _ hSw ?_
  clear hK K hzz
  refine RestS.take 10 64 rfl (by kernel_rfl) (by kernel_rfl) (by kernel_rfl) (fun _ _ _ h => h) (by rfl) (by rfl) (by intro zx hx; go_simp <;> with_reducible rfl) (by simp only [Act.put, List.setIfInBounds_toArray, List.set_cons_zero, List.set_cons_succ] <;> rfl) hSw ?_
  refine RestS.step 11 rfl (by kernel_rfl) (by rfl) (fun K hK => ?_)
  have hc := (LbAt.of HQ4.out).k3
  have hf := frozen_of_row z4 q 3 _ _ HQ4.out
  go_simp
  clear hc hf
  obtain ⟨z5, hzz⟩ : ∃ y0, y0 = z4.setCell ⟨q, 3, none⟩ (.int .u64 l.gen) := ⟨_, rfl⟩
  rw [← hzz]
  have HQ5 : Hid (z5.heap[q]? = some (.cells (({ l with gen := l.gen + 1, prev := l.gen } : Lb).arrv ad nd c) 32 (0, 0))) := by
    rw [hzz, heap_setCell_same z4 q 3 _ _ _ HQ4.out]
    exact Lib.hid rfl
  have HZz5 : Hid (Below w2.heap.size w2 z5) := by rw [hzz]; exact Lib.hid (HZz4.out.setCell (p := ⟨q, 3, none⟩) (by rw [HQ.out]; exact Nat.le_refl _) _)
  have hsz5 : z5.heap.size = q + 1 := by rw [hzz]; simpa using hsz4
  replace hSw : LbAt l ad nd c g z5 := L2.out.below HZz5.out hg2
  refine hK.out _ _ hSw ?_
  clear hK K hzz
  refine RestS.take 12 65 rfl (by kernel_rfl) (by kernel_rfl) (by kernel_rfl) (fun _ _ _ h => h) (by rfl) (by rfl) (by intro zx hx; go_simp <;> with_reducible rfl) (by simp only [Act.put, List.setIfInBounds_toArray, List.set_cons_zero, List.set_cons_succ] <;> rfl) hSw ?_
  refine RestS.step 13 rfl (by kernel_rfl) (by rfl) (fun K hK => ?_)
  have hc := (LbAt.of HQ5.out).k17
  have hf := frozen_of_row z5 q 17 _ _ HQ5.out
  go_simp
  clear hc hf
  obtain ⟨z6, hzz⟩ : ∃ y0, y0 = z5.setCell ⟨q, 17, none⟩ (.int .u64 x) := ⟨_, rfl⟩
  rw [← hzz]
  have HQ6 : Hid (z6.heap[q]? = some (.cells (({ l with gen := l.gen + 1, prev := l.gen, sum := x } : Lb).arrv ad nd c) 32 (0, 0))) := by
    rw [hzz, heap_setCell_same z5 q 17 _ _ _ HQ5.out]
    exact Lib.hid rfl
  have HZz6 : Hid (Below w2.heap.size w2 z6) := by rw [hzz]; exact Lib.hid (HZz5.out.setCell (p := ⟨q, 17, none⟩) (by rw [HQ.out]; exact Nat.le_refl _) _)
  have hsz6 : z6.heap.size = q + 1 := by rw [hzz]; simpa using hsz5
  replace hSw : LbAt l ad nd c g z6 := L2.out.below HZz6.out hg2
  refine hK.out _ _ hSw ?_
  clear hK K hzz
  refine RestS.take 14 66 rfl (by kernel_rfl) (by kernel_rfl) (by kernel_rfl) (fun _ _ _ h => h) (by rfl) (by rfl) (by intro zx hx; go_simp <;> with_reducible rfl) (by simp only [Act.put, List.setIfInBounds_toArray, List.set_cons_zero, List.set_cons_succ] <;> rfl) hSw ?_
  refine RestS.step 15 rfl (by kernel_rfl) (by rfl) (fun K hK => ?_)
  have hc := (LbAt.of HQ6.out).k18
  have hf := frozen_of_row z6 q 18 _ _ HQ6.out
  go_simp
  clear hc hf
  obtain ⟨z7, hzz⟩ : ∃ y0, y0 = z6.setCell ⟨q, 18, none⟩ (.int .u64 (x / 2)) := ⟨_, rfl⟩
  rw [← hzz]
  have HQ7 : Hid (z7.heap[q]? = some (.cells ((nextL l l.dead x).arrv ad nd c) 32 (0, 0))) := by
    rw [hzz, heap_setCell_same z6 q 18 _ _ _ HQ6.out]
    exact Lib.hid rfl
  have HZz7 : Hid (Below w2.heap.size w2 z7) := by rw [hzz]; exact Lib.hid (HZz6.out.setCell (p := ⟨q, 18, none⟩) (by rw [HQ.out]; exact Nat.le_refl _) _)
  have hsz7 : z7.heap.size = q + 1 := by rw [hzz]; simpa using hsz6
  replace hSw : LbAt l ad nd c g z7 := L2.out.below HZz7.out hg2
  refine hK.out _ _ hSw ?_
  clear hK K hzz
  refine wpAnyH_done (by kernel_rfl) ?_ _
  refine hKK.out _ _ ?_
  clear hKK
  have hnd4 : 4 ≤ nd := by have h1 := valid_dk HVAL.out; have h2 := HNL.out; omega
  refine wp_seq_k (fun K hK => ?_)
  refine Lin.begin ?_
  refine Lin.takeW 67 (w' := z7.alloc (.cells #[] 4)) (v := .slice (some ⟨z7.heap.size, 0, none⟩) 0 0) rfl rfl (by go_simp <;> rfl) (by simp only [Act.put, List.setIfInBounds_toArray, List.set_cons_zero, List.set_cons_succ] <;> rfl) ?_
  intro w8 hw8
  have HO8 : Hid (w8.ownsRow z7.heap.size 4 1 (.slice (some ⟨z7.heap.size, 0, none⟩) 0 0) 0 []) := by rw [hw8]; exact Lib.hid (owns_empty _ _ _ _ (Nat.le_refl _))
  have HB78 : Hid (Below z7.heap.size z7 w8) := by rw [hw8]; exact Lib.hid ((Below.refl _ _).alloc (Nat.le_refl _) _)
  have HQ8 : Hid (w8.heap[q]? = some (.cells ((nextL l l.dead x).arrv ad nd c) 32 (0, 0))) := by rw [← HQ7.out]; exact Lib.hid (HB78.out.block q (by omega))
  have L8 := Lib.hid (hSw.below HB78.out (by have := HQ.out; omega))
  clear hw8
  refine Lin.take 68 rfl rfl (by go_simp <;> with_reducible rfl) (by simp only [Act.put, List.setIfInBounds_toArray, List.set_cons_zero, List.set_cons_succ] <;> rfl) ?_
  refine Lin.take 69 (v := .slice ad nd c) rfl rfl (by have hk := L8.out.k15; go_simp <;> with_reducible rfl) (by simp only [Act.put, List.setIfInBounds_toArray, List.set_cons_zero, List.set_cons_succ] <;> rfl) ?_
  refine wpList_appendT w8 4 (.bool false) 1 (by kernel_rfl) rfl (by decide) rfl (.tmp 67) (.tmp 69) Try.underlying23 rfl z7.heap.size _ 0 [] rfl HO8.out _ nd c (bb l.dead) rfl (HS2.out.below (HZz7.out.trans (HB78.out.mono HZz7.out.size))) (by omega) HB78.out.size ?_
  intro a2 c2 w9 hown9 hg9
  simp only [Act.put, List.setIfInBounds_toArray, List.set_cons_zero, List.set_cons_succ] 
  simp only [Nat.zero_add, List.nil_append] at hown9 ⊢
  have HO9 := Lib.hid hown9
  have HB79 : Hid (Below z7.heap.size z7 w9) := Lib.hid (HB78.out.grown hg9 HB78.out.size (fun k hk => (HO8.out.lt k hk).1))
  have HQ9 : Hid (w9.heap[q]? = some (.cells ((nextL l l.dead x).arrv ad nd c) 32 (0, 0))) := by rw [← HQ7.out]; exact Lib.hid (HB79.out.block q (by omega))
  clear hown9 hg9
  obtain ⟨A, hA⟩ : ∃ A, a2 = some ⟨A, 0, none⟩ := by
    rcases HO9.out.2 with ⟨h1, h2⟩ | ⟨A, cap, cur, h1, _⟩
    · omega
    · simp only [Value.slice.injEq] at h1; exact ⟨A, h1.1⟩
  subst hA
  have hA7 : q < A := by have := (HO9.out.lt A rfl).1; omega
  have hA9 : A < w9.heap.size := (HO9.out.lt A rfl).2
  refine Lin.take 71 rfl rfl (by go_simp <;> with_reducible rfl) (by simp only [Act.put, List.setIfInBounds_toArray, List.set_cons_zero, List.set_cons_succ] <;> rfl) ?_
  refine Lin.store (w' := w9.setCell ⟨q, 15, none⟩ (.slice (some ⟨A, 0, none⟩) nd c2)) rfl (by have hc := (LbAt.of HQ9.out).k15; have hf := frozen_of_row w9 q 15 _ _ HQ9.out; go_simp <;> (first | exact ⟨rfl, rfl⟩ | rfl)) (by simp only [Act.put] <;> rfl) ?_
  intro w10 hw10
  have HQ10 : Hid (w10.heap[q]? = some (.cells ((nextL l l.dead x).arrv (some ⟨A, 0, none⟩) nd c2) 32 (0, 0))) := by
    rw [hw10, heap_setCell_same w9 q 15 _ _ _ HQ9.out]
    exact Lib.hid rfl
  have HO10 : Hid (w10.ownsRow (q + 1) 4 1 (.slice (some ⟨A, 0, none⟩) nd c2) nd (bb l.dead)) := by rw [hw10]; exact Lib.hid (World.ownsRow.kept (ownsRow_base HO9.out (by omega)) (grownBy_setCell w9 q 15 _) (.inr (by simp [Value.ownBlock]; omega)))
  have HZ10 : Hid (Below w2.heap.size w2 w10) := by rw [hw10]; exact Lib.hid ((HZz7.out.trans (HB79.out.mono HZz7.out.size)).setCell (p := ⟨q, 15, none⟩) (by rw [HQ.out]; exact Nat.le_refl _) _)
  have hs10 : A < w10.heap.size := by rw [hw10]; simpa using hA9
  clear hw10
  refine Lin.done (hK _ _ ?_)
  clear hK K
  refine wp_seq_k (fun K hK => ?_)
  refine Lin.begin ?_
  refine Lin.take 10 rfl rfl (by go_simp <;> with_reducible rfl) (by simp only [Act.put, List.setIfInBounds_toArray, List.set_cons_zero, List.set_cons_succ] <;> rfl) ?_
  refine Lin.done (hK _ _ ?_)
  clear hK K hSw
  refine wp_seq_k (fun KL hKL => ?_)
  have HKL := Lib.hid hKL
  clear hKL
  have hcap2 := (Sl.of_owns HO10.out (bb_one _)).2.cap
  have hcapO := HO2.out.cap
  have HS7 := Lib.hid hsz7
  clear hsz4 hsz5 hsz6 hsz7 hs3 hs3d
  obtain ⟨g7, hg7⟩ : ∃ g7, g7 = z7.heap.size := ⟨_, rfl⟩
  rw [← hg7]
  have HG7 := Lib.hid hg7
  clear hg7
  have hk15 := (LbAt.of HQ10.out).k15
  go_wp2
  clear hk15
  go_loopw [10, 75] (fun ov iv wr => ∃ (d k : Nat), iv = .int .i64 (d : Int) ∧ d ≤ nd ∧ ov = .int .i64 (k : Int) ∧ k ≤ d ∧ Hid (k = ((ddF l lo nd).take d).count true) ∧ Hid (wr.ownsRow (q + 1) 4 1 (.slice (some ⟨A, 0, none⟩) nd c2) nd (bb (ddF l lo d))) ∧ Hid (wr.heap[q]? = some (.cells ((nextL l l.dead x).arrv (some ⟨A, 0, none⟩) nd c2) 32 (0, 0))) ∧ Hid (Below w2.heap.size w2 wr)) (fun _ iv _ => nd - (intOf iv).toNat)
  case atStart => exact ⟨0, 0, rfl, by omega, rfl, by omega, Lib.hid rfl, by simpa [ddF] using HO10, HQ10, HZ10⟩
  case round =>
  obtain ⟨d, k, rfl, hdn, rfl, hkd, HKN, HROW, HRQ, HBW⟩ := hrel
  by_cases hd : d < nd
  · have hdI : (d : Int) < nd := by omega
    have hdO : (d : Int) < ns := by omega
    have hd0 : (0 : Int) ≤ (d : Int) := by omega
    have hdl : d < l.dead.length := by have := HNL.out; omega
    have hol : d < lo.length := by have := HOL.out; omega
    obtain ⟨bO, oO, haO, hcellO⟩ := HO2.out.at (k := d) (by rw [bb_length]; exact hol)
    have hcO := hcellO d (by rw [bb_length]; exact hol)
    simp only [bb, List.getElem_map] at hcO
    obtain ⟨lb, hlb⟩ : ∃ lb, lb = lo[d] := ⟨_, rfl⟩
    obtain ⟨db, hdb⟩ : ∃ db, db = l.dead[d] := ⟨_, rfl⟩
    rw [← hlb] at hcO
    have hbO : bO < w2.heap.size := World.block_lt_of_cell? w2 _ hcO
    have HLB2 := Lib.hid hcO
    have hset := ddF_set (l := l) (lo := lo) hdl hol
    have hget := ddF_get (l := l) (lo := lo) hdl
    have hnext := ddF_next (l := l) (lo := lo) hdl hol
    have htake := ddF_count (l := l) (lo := lo) (nd := nd) hdl hol hd
    rw [← hlb, ← hdb] at hset hnext htake
    rw [← hdb] at hget
    have HCC0 : Hid (wr.cell? ⟨A, d, none⟩ = some (.bool db)) := by rw [HROW.out.cellAt d (by omega)]; exact Lib.hid hget
    have HGET0 := Lib.hid hnext
    have HSET0 := Lib.hid hset
    have HTAKE := Lib.hid htake
    subst haO
    clear hcellO hcO hlb hdb hset hget hnext htake hdl hol
    obtain ⟨zD, hzD⟩ : ∃ zD, zD = wr.drew := ⟨_, rfl⟩
    have hSw : zD.heap[q]? = some (.cells ((nextL l l.dead x).arrv (some ⟨A, 0, none⟩) nd c2) 32 (0, 0)) ∧ zD.cell? ⟨bO, oO + d, none⟩ = some (.bool lb) := by rw [hzD]; exact ⟨HRQ.out, below_cell HBW.out hbO HLB2.out⟩
    have HCC : Hid (zD.cell? ⟨A, d, none⟩ = some (.bool db)) := by rw [hzD]; exact HCC0
    have HOD : Hid (zD.ownsRow (q + 1) 4 1 (.slice (some ⟨A, 0, none⟩) nd c2) nd (bb (ddF l lo d))) := by rw [hzD]; exact HROW
    have HZD2 : Hid (Below w2.heap.size w2 zD) := by rw [hzD]; exact Lib.hid HBW.out.drew
    have HZD := Lib.hid hzD
    clear hzD HCC0
    cases db with
    | true =>
      have HSET : Hid ((ddF l lo d).set d true = ddF l lo (d + 1)) := HSET0
      have HGET : Hid ((bb (ddF l lo (d + 1)))[d]? = some (.bool true)) := HGET0
      go_wp2
      refine RestS.begin (fun z => z.heap[q]? = some (.cells ((nextL l l.dead x).arrv (some ⟨A, 0, none⟩) nd c2) 32 (0, 0)) ∧ z.cell? ⟨bO, oO + d, none⟩ = some (.bool lb)) 16 (by kernel_rfl) (by kernel_rfl) ?_
      rw [← HZD.out]
      refine RestS.take 0 78 rfl (by kernel_rfl) (by kernel_rfl) (by kernel_rfl) (fun _ _ _ h => h) (by rfl) (by rfl) (by intro zx hx; go_simp <;> with_reducible rfl) (by simp only [Act.put, List.setIfInBounds_toArray, List.set_cons_zero, List.set_cons_succ] <;> rfl) hSw ?_
      refine RestS.take 1 79 (v := .slice (some ⟨A, 0, none⟩) nd c2) rfl (by kernel_rfl) (by kernel_rfl) (by kernel_rfl) (fun _ _ _ h => h) (by rfl) (by rfl) (by intro zx hx; have hk := (LbAt.of hx.1).k15; go_simp <;> with_reducible rfl) (by simp only [Act.put, List.setIfInBounds_toArray, List.set_cons_zero, List.set_cons_succ] <;> rfl) hSw ?_
      refine RestS.take 2 80 rfl (by kernel_rfl) (by kernel_rfl) (by kernel_rfl) (fun _ _ _ h => h) (by rfl) (by rfl) (by intro zx hx; go_simp <;> with_reducible rfl) (by simp only [Act.put, List.setIfInBounds_toArray, List.set_cons_zero, List.set_cons_succ] <;> rfl) hSw ?_
      refine RestS.take 3 81 rfl (by kernel_rfl) (by kernel_rfl) (by kernel_rfl) (fun _ _ _ h => h) (by rfl) (by rfl) (by intro zx hx; go_simp <;> with_reducible rfl) (by simp only [Act.put, List.setIfInBounds_toArray, List.set_cons_zero, List.set_cons_succ] <;> rfl) hSw ?_
      refine RestS.take 4 82 (v := .slice (some ⟨A, 0, none⟩) nd c2) rfl (by kernel_rfl) (by kernel_rfl) (by kernel_rfl) (fun _ _ _ h => h) (by rfl) (by rfl) (by intro zx hx; have hk := (LbAt.of hx.1).k15; go_simp <;> with_reducible rfl) (by simp only [Act.put, List.setIfInBounds_toArray, List.set_cons_zero, List.set_cons_succ] <;> rfl) hSw ?_
      refine RestS.take 5 83 rfl (by kernel_rfl) (by kernel_rfl) (by kernel_rfl) (fun _ _ _ h => h) (by rfl) (by rfl) (by intro zx hx; go_simp <;> with_reducible rfl) (by simp only [Act.put, List.setIfInBounds_toArray, List.set_cons_zero, List.set_cons_succ] <;> rfl) hSw ?_
      refine RestS.take 6 84 (v := .pointer (some ⟨A, d, none⟩)) rfl (by kernel_rfl) (by kernel_rfl) (by kernel_rfl) (fun _ _ _ h => h) (by rfl) (by rfl) (by intro zx hx; have h1 := hdI; have h2 := hd0; have h3 := hcap2; go_simp <;> (first | with_reducible rfl | simp)) (by simp only [Act.put, List.setIfInBounds_toArray, List.set_cons_zero, List.set_cons_succ] <;> rfl) hSw ?_
      refine RestS.step 7 rfl (by kernel_rfl) (by rfl) (fun K hK => ?_)
      have hc := HCC.out
      go_simp
      refine hK.out _ _ hSw ?_
      clear hK K hc
      refine RestS.take 8 86 rfl (by kernel_rfl) (by kernel_rfl) (by kernel_rfl) (fun _ _ _ h => h) (by rfl) (by rfl) (by intro zx hx; go_simp <;> with_reducible rfl) (by simp only [Act.put, List.setIfInBounds_toArray, List.set_cons_zero, List.set_cons_succ] <;> rfl) hSw ?_
      refine RestS.skip 9 87 rfl (by kernel_rfl) (by kernel_rfl) (by kernel_rfl) (fun _ _ _ h => h) (by rfl) (by rfl) (by simp only [Act.put, List.setIfInBounds_toArray, List.set_cons_zero, List.set_cons_succ] <;> rfl) hSw ?_
      refine RestS.skip 10 88 rfl (by kernel_rfl) (by kernel_rfl) (by kernel_rfl) (fun _ _ _ h => h) (by rfl) (by rfl) (by simp only [Act.put, List.setIfInBounds_toArray, List.set_cons_zero, List.set_cons_succ] <;> rfl) hSw ?_
      refine RestS.skip 11 89 rfl (by kernel_rfl) (by kernel_rfl) (by kernel_rfl) (fun _ _ _ h => h) (by rfl) (by rfl) (by simp only [Act.put, List.setIfInBounds_toArray, List.set_cons_zero, List.set_cons_succ] <;> rfl) hSw ?_
      refine RestS.skip 12 90 rfl (by kernel_rfl) (by kernel_rfl) (by kernel_rfl) (fun _ _ _ h => h) (by rfl) (by rfl) (by simp only [Act.put, List.setIfInBounds_toArray, List.set_cons_zero, List.set_cons_succ] <;> rfl) hSw ?_
      refine RestS.take 13 91 (v := .bool true) rfl (by kernel_rfl) (by kernel_rfl) (by kernel_rfl) (fun _ _ _ h => h) (by rfl) (by rfl) (by intro zx hx; go_simp <;> with_reducible rfl) (by simp only [Act.put, List.setIfInBounds_toArray, List.set_cons_zero, List.set_cons_succ] <;> rfl) hSw ?_
      refine RestS.take 14 92 (v := .pointer (some ⟨A, d, none⟩)) rfl (by kernel_rfl) (by kernel_rfl) (by kernel_rfl) (fun _ _ _ h => h) (by rfl) (by rfl) (by intro zx hx; have h1 := hdI; have h2 := hd0; have h3 := hcap2; go_simp <;> (first | with_reducible rfl | simp)) (by simp only [Act.put, List.setIfInBounds_toArray, List.set_cons_zero, List.set_cons_succ] <;> rfl) hSw ?_
      refine RestS.step 15 rfl (by kernel_rfl) (by rfl) (fun K hK => ?_)
      have hc := HCC.out
      have hf := HOD.out.frozenAt d
      go_simp
      clear hc hf
      obtain ⟨z9, hz9⟩ : ∃ y, y = zD.setCell ⟨A, d, none⟩ (.bool true) := ⟨_, rfl⟩
      rw [← hz9]
      have HO9 : Hid (z9.ownsRow (q + 1) 4 1 (.slice (some ⟨A, 0, none⟩) nd c2) nd (bb (ddF l lo (d + 1)))) := by
        have h1 := (HOD.out.stored d (.bool true)).1
        rw [bb_set, HSET.out] at h1
        rw [hz9]
        exact Lib.hid h1
      have HQ9 : Hid (z9.heap[q]? = some (.cells ((nextL l l.dead x).arrv (some ⟨A, 0, none⟩) nd c2) 32 (0, 0))) := by rw [hz9, ← hSw.1]; exact Lib.hid (Below.heap_setCell _ _ _ _ (fun e => by simp at e; omega))
      have HZ9 : Hid (Below w2.heap.size w2 z9) := by rw [hz9]; exact Lib.hid (HZD2.out.setCell (p := ⟨A, d, none⟩) (by have := HQ.out; show w2.heap.size ≤ A; omega) _)
      have HC9 : Hid (z9.cell? ⟨A, d, none⟩ = some (.bool true)) := by rw [HO9.out.cellAt d (by omega)]; exact HGET.out
      refine hK.out _ _ ⟨HQ9.out, ?_⟩ ?_
      · exact below_cell HZ9.out hbO HLB2.out
      clear hK K hz9 hSw
      refine wpAnyH_done (by kernel_rfl) ?_ _
      have hc := HC9.out
      have hk15 := (LbAt.of HQ9.out).k15
      go_wp2
      go_roundw
      case rel => exact ⟨d + 1, k + 1, by go_num, by omega, by go_num, by omega, Lib.hid (by rw [HTAKE.out, ← HKN.out]; rfl), HO9, HQ9, HZ9⟩
      case measure => simp [intOf]; omega
    | false =>
      have HSET : Hid ((ddF l lo d).set d lb = ddF l lo (d + 1)) := HSET0
      have HGET : Hid ((bb (ddF l lo (d + 1)))[d]? = some (.bool lb)) := HGET0
      go_wp2
      refine RestS.begin (fun z => z.heap[q]? = some (.cells ((nextL l l.dead x).arrv (some ⟨A, 0, none⟩) nd c2) 32 (0, 0)) ∧ z.cell? ⟨bO, oO + d, none⟩ = some (.bool lb)) 16 (by kernel_rfl) (by kernel_rfl) ?_
      rw [← HZD.out]
      refine RestS.take 0 78 rfl (by kernel_rfl) (by kernel_rfl) (by kernel_rfl) (fun _ _ _ h => h) (by rfl) (by rfl) (by intro zx hx; go_simp <;> with_reducible rfl) (by simp only [Act.put, List.setIfInBounds_toArray, List.set_cons_zero, List.set_cons_succ] <;> rfl) hSw ?_
      refine RestS.take 1 79 (v := .slice (some ⟨A, 0, none⟩) nd c2) rfl (by kernel_rfl) (by kernel_rfl) (by kernel_rfl) (fun _ _ _ h => h) (by rfl) (by rfl) (by intro zx hx; have hk := (LbAt.of hx.1).k15; go_simp <;> with_reducible rfl) (by simp only [Act.put, List.setIfInBounds_toArray, List.set_cons_zero, List.set_cons_succ] <;> rfl) hSw ?_
      refine RestS.take 2 80 rfl (by kernel_rfl) (by kernel_rfl) (by kernel_rfl) (fun _ _ _ h => h) (by rfl) (by rfl) (by intro zx hx; go_simp <;> with_reducible rfl) (by simp only [Act.put, List.setIfInBounds_toArray, List.set_cons_zero, List.set_cons_succ] <;> rfl) hSw ?_
      refine RestS.take 3 81 rfl (by kernel_rfl) (by kernel_rfl) (by kernel_rfl) (fun _ _ _ h => h) (by rfl) (by rfl) (by intro zx hx; go_simp <;> with_reducible rfl) (by simp only [Act.put, List.setIfInBounds_toArray, List.set_cons_zero, List.set_cons_succ] <;> rfl) hSw ?_
      refine RestS.take 4 82 (v := .slice (some ⟨A, 0, none⟩) nd c2) rfl (by kernel_rfl) (by kernel_rfl) (by kernel_rfl) (fun _ _ _ h => h) (by rfl) (by rfl) (by intro zx hx; have hk := (LbAt.of hx.1).k15; go_simp <;> with_reducible rfl) (by simp only [Act.put, List.setIfInBounds_toArray, List.set_cons_zero, List.set_cons_succ] <;> rfl) hSw ?_
      refine RestS.take 5 83 rfl (by kernel_rfl) (by kernel_rfl) (by kernel_rfl) (fun _ _ _ h => h) (by rfl) (by rfl) (by intro zx hx; go_simp <;> with_reducible rfl) (by simp only [Act.put, List.setIfInBounds_toArray, List.set_cons_zero, List.set_cons_succ] <;> rfl) hSw ?_
      refine RestS.take 6 84 (v := .pointer (some ⟨A, d, none⟩)) rfl (by kernel_rfl) (by kernel_rfl) (by kernel_rfl) (fun _ _ _ h => h) (by rfl) (by rfl) (by intro zx hx; have h1 := hdI; have h2 := hd0; have h3 := hcap2; go_simp <;> (first | with_reducible rfl | simp)) (by simp only [Act.put, List.setIfInBounds_toArray, List.set_cons_zero, List.set_cons_succ] <;> rfl) hSw ?_
      refine RestS.step 7 rfl (by kernel_rfl) (by rfl) (fun K hK => ?_)
      have hc := HCC.out
      go_simp
      refine hK.out _ _ hSw ?_
      clear hK K hc
      refine RestS.take 8 86 rfl (by kernel_rfl) (by kernel_rfl) (by kernel_rfl) (fun _ _ _ h => h) (by rfl) (by rfl) (by intro zx hx; go_simp <;> with_reducible rfl) (by simp only [Act.put, List.setIfInBounds_toArray, List.set_cons_zero, List.set_cons_succ] <;> rfl) hSw ?_
      refine RestS.take 9 87 rfl (by kernel_rfl) (by kernel_rfl) (by kernel_rfl) (fun _ _ _ h => h) (by rfl) (by rfl) (by intro zx hx; go_simp <;> with_reducible rfl) (by simp only [Act.put, List.setIfInBounds_toArray, List.set_cons_zero, List.set_cons_succ] <;> rfl) hSw ?_
      refine RestS.take 10 88 rfl (by kernel_rfl) (by kernel_rfl) (by kernel_rfl) (fun _ _ _ h => h) (by rfl) (by rfl) (by intro zx hx; go_simp <;> with_reducible rfl) (by simp only [Act.put, List.setIfInBounds_toArray, List.set_cons_zero, List.set_cons_succ] <;> rfl) hSw ?_
      refine RestS.take 11 89 (v := .pointer (some ⟨bO, oO + d, none⟩)) rfl (by kernel_rfl) (by kernel_rfl) (by kernel_rfl) (fun _ _ _ h => h) (by rfl) (by rfl) (by intro zx hx; have h1 := hdO; have h2 := hd0; have h3 := hcapO; go_simp <;> with_reducible rfl) (by simp only [Act.put, List.setIfInBounds_toArray, List.set_cons_zero, List.set_cons_succ] <;> rfl) hSw ?_
      refine RestS.take 12 90 (v := .bool lb) rfl (by kernel_rfl) (by kernel_rfl) (by kernel_rfl) (fun _ _ _ h => h) (by rfl) (by rfl) (by intro zx hx; have hc := hx.2; go_simp <;> with_reducible rfl) (by simp only [Act.put, List.setIfInBounds_toArray, List.set_cons_zero, List.set_cons_succ] <;> rfl) hSw ?_
      refine RestS.take 13 91 (v := .bool lb) rfl (by kernel_rfl) (by kernel_rfl) (by kernel_rfl) (fun _ _ _ h => h) (by rfl) (by rfl) (by intro zx hx; go_simp <;> with_reducible rfl) (by simp only [Act.put, List.setIfInBounds_toArray, List.set_cons_zero, List.set_cons_succ] <;> rfl) hSw ?_
      refine RestS.take 14 92 (v := .pointer (some ⟨A, d, none⟩)) rfl (by kernel_rfl) (by kernel_rfl) (by kernel_rfl) (fun _ _ _ h => h) (by rfl) (by rfl) (by intro zx hx; have h1 := hdI; have h2 := hd0; have h3 := hcap2; go_simp <;> (first | with_reducible rfl | simp)) (by simp only [Act.put, List.setIfInBounds_toArray, List.set_cons_zero, List.set_cons_succ] <;> rfl) hSw ?_
      refine RestS.step 15 rfl (by kernel_rfl) (by rfl) (fun K hK => ?_)
      have hc := HCC.out
      have hf := HOD.out.frozenAt d
      go_simp
      clear hc hf
      obtain ⟨z9, hz9⟩ : ∃ y, y = zD.setCell ⟨A, d, none⟩ (.bool lb) := ⟨_, rfl⟩
      rw [← hz9]
      have HO9 : Hid (z9.ownsRow (q + 1) 4 1 (.slice (some ⟨A, 0, none⟩) nd c2) nd (bb (ddF l lo (d + 1)))) := by
        have h1 := (HOD.out.stored d (.bool lb)).1
        rw [bb_set, HSET.out] at h1
        rw [hz9]
        exact Lib.hid h1
      have HQ9 : Hid (z9.heap[q]? = some (.cells ((nextL l l.dead x).arrv (some ⟨A, 0, none⟩) nd c2) 32 (0, 0))) := by rw [hz9, ← hSw.1]; exact Lib.hid (Below.heap_setCell _ _ _ _ (fun e => by simp at e; omega))
      have HZ9 : Hid (Below w2.heap.size w2 z9) := by rw [hz9]; exact Lib.hid (HZD2.out.setCell (p := ⟨A, d, none⟩) (by have := HQ.out; show w2.heap.size ≤ A; omega) _)
      have HC9 : Hid (z9.cell? ⟨A, d, none⟩ = some (.bool lb)) := by rw [HO9.out.cellAt d (by omega)]; exact HGET.out
      refine hK.out _ _ ⟨HQ9.out, ?_⟩ ?_
      · exact below_cell HZ9.out hbO HLB2.out
      clear hK K hz9 hSw
      refine wpAnyH_done (by kernel_rfl) ?_ _
      have hc := HC9.out
      have hk15 := (LbAt.of HQ9.out).k15
      cases lb with
      | true =>
        go_wp2
        go_roundw
        case rel => exact ⟨d + 1, k + 1, by go_num, by omega, by go_num, by omega, Lib.hid (by rw [HTAKE.out, ← HKN.out]; rfl), HO9, HQ9, HZ9⟩
        case measure => simp [intOf]; omega
      | false =>
        go_wp2
        go_roundw
        case rel => exact ⟨d + 1, k, by go_num, by omega, rfl, by omega, Lib.hid (by rw [HTAKE.out, ← HKN.out]; rfl), HO9, HQ9, HZ9⟩
        case measure => simp [intOf]; omega
  have hdI : ¬ (d : Int) < nd := by omega
  obtain rfl : nd = d := by omega
  go_wp2
  refine HKL.out _ _ ?_
  clear HKL
  obtain ⟨w11, hw11⟩ : ∃ y, y = wr := ⟨_, rfl⟩
  subst hw11
  obtain ⟨dd, hdd⟩ : ∃ dd, dd = ddF l lo nd := ⟨_, rfl⟩
  rw [← hdd] at HKN HROW
  have hddl : dd.length = nd := by have := HROW.out.1; rw [bb_length] at this; omega
  have hkc : k = dd.count true := by rw [HKN.out, List.take_of_length_le (by omega)]
  have hddg : ∀ i, i < nd → dd.getD i false = (l.dead.getD i false || lo.getD i false) := by
    intro i hi
    rw [hdd]
    unfold ddF
    rw [List.getD_eq_getElem?_getD, List.getElem?_append_left (by simpa using hi), List.getElem?_map, List.getElem?_range hi]
    rfl
  have HB11 := Lib.hid (HB2.out.trans (HBW.out.mono HB2.out.size))
  have HDDL := Lib.hid hddl
  have HKC := Lib.hid hkc
  have HDDG := Lib.hid hddg
  have L11 := Lib.hid (L2.out.below HBW.out hg2)
  have hg11 : g < w11.heap.size := by have := HBW.out.size; omega
  have M11 : Hid (LbAt (nextL l dd x) (some ⟨A, 0, none⟩) nd c2 q w11) := Lib.hid (LbAt.of HRQ.out)
  have hq11 : q < w11.heap.size := by have := (HROW.out.lt A rfl).2; omega
  have HDN11 := Lib.hid (HD2.out.below HBW.out)
  have HDD11 := Lib.hid (Sl.of_owns HROW.out (bb_one _)).2
  have hcapM := HDN11.out.cap
  have hs211 := HBW.out.size
  have HOLD11 := Lib.hid (HS2.out.below HBW.out)
  clear hdd hddl hkc hddg HKN HBW hkd hdn hdI hd hcapO
  refine wp_seq_k (fun K1 hK1 => ?_)
  refine wp_seq_k (fun K hK => ?_)
  by_cases hk3 : 3 < k
  · have hk3I : (k : Int) > 3 := by omega
    refine Lin.begin ?_
    refine Lin.take 101 rfl rfl (by go_simp <;> with_reducible rfl) (by simp only [Act.put, List.setIfInBounds_toArray, List.set_cons_zero, List.set_cons_succ] <;> rfl) ?_
    refine Lin.take 102 (v := .bool true) rfl rfl (by have h1 := hk3I; go_simp <;> with_reducible rfl) (by simp only [Act.put, List.setIfInBounds_toArray, List.set_cons_zero, List.set_cons_succ] <;> rfl) ?_
    refine Lin.done (hK _ _ ?_)
    refine wp_cond_true rfl ?_
    refine wp_seq_k (fun KE hKE => ?_)
    refine Lin.begin ?_
    refine Lin.take 8 (v := .bool true) rfl rfl (by go_simp <;> with_reducible rfl) (by simp only [Act.put, List.setIfInBounds_toArray, List.set_cons_zero, List.set_cons_succ] <;> rfl) ?_
    refine Lin.done (hKE _ _ ?_)
    refine wp_ret ?_
    (try simp only [Exit.then])
    refine bodyPost_ret (results_tmp rfl _ _ _) rfl ?_
    exact ⟨rfl, HB11.out⟩
  have hk3I : ¬ (k : Int) > 3 := by omega
  refine Lin.begin ?_
  refine Lin.take 101 rfl rfl (by go_simp <;> with_reducible rfl) (by simp only [Act.put, List.setIfInBounds_toArray, List.set_cons_zero, List.set_cons_succ] <;> rfl) ?_
  refine Lin.take 102 (v := .bool false) rfl rfl (by have h1 := hk3I; go_simp <;> with_reducible rfl) (by simp only [Act.put, List.setIfInBounds_toArray, List.set_cons_zero, List.set_cons_succ] <;> rfl) ?_
  refine Lin.done (hK _ _ ?_)
  refine wp_cond_false rfl ?_
  refine wp_skip ?_
  refine hK1 _ _ ?_
  clear hK1 K1 hK K hk3I
  refine wp_seq_k (fun K hK => ?_)
  refine Lin.begin ?_
  refine Lin.take 12 rfl rfl (by go_simp <;> with_reducible rfl) (by simp only [Act.put, List.setIfInBounds_toArray, List.set_cons_zero, List.set_cons_succ] <;> rfl) ?_
  refine Lin.done (hK _ _ ?_)
  clear hK K
  refine wp_seq_k (fun K hK => ?_)
  refine Lin.begin ?_
  refine Lin.take 13 rfl rfl (by go_simp <;> with_reducible rfl) (by simp only [Act.put, List.setIfInBounds_toArray, List.set_cons_zero, List.set_cons_succ] <;> rfl) ?_
  refine Lin.done (hK _ _ ?_)
  clear hK K
  refine wp_seq_k (fun K hK => ?_)
  refine Lin.begin ?_
  refine Lin.take 14 rfl rfl (by go_simp <;> with_reducible rfl) (by simp only [Act.put, List.setIfInBounds_toArray, List.set_cons_zero, List.set_cons_succ] <;> rfl) ?_
  refine Lin.done (hK _ _ ?_)
  clear hK K
  refine wp_seq_k (fun KL hKL => ?_)
  have HKL := Lib.hid hKL
  clear hKL
  have hk15 := L11.out.k15
  go_wp2
  clear hk15
  go_loopw [12, 13, 14, 106] (fun lv bv av iv wr => ∃ (d : Nat) (a1 : Option Addr) (c1 : Nat) (a3 : Option Addr) (c3 : Nat) (B : Bool), iv = .int .i64 (d : Int) ∧ d ≤ nd ∧ lv = .slice a1 d c1 ∧ bv = .slice a3 d c3 ∧ av = .bool B ∧ Hid (B = intA dn dd d) ∧ Hid (wr.ownsRow w11.heap.size 32 19 (.slice a1 d c1) d (lcs (intX l (nextL l dd x) ad nd c (some ⟨A, 0, none⟩) nd c2 dn d))) ∧ Hid (wr.ownsRow w11.heap.size 4 1 (.slice a3 d c3) d (bb (intR dd d))) ∧ Hid (Below w11.heap.size w11 wr)) (fun _ _ _ iv _ => nd - (intOf iv).toNat)
  case atStart => exact ⟨0, none, 0, none, 0, false, rfl, by omega, rfl, rfl, rfl, Lib.hid rfl, Lib.hid (World.ownsRow_nil _ _ _ _), Lib.hid (World.ownsRow_nil _ _ _ _), Lib.hid (Below.refl _ _)⟩
  case round =>
  obtain ⟨d, a1, c1, a3, c3, B, rfl, hdn, rfl, rfl, rfl, HBE, HROWL, HROWB, HBW⟩ := hrel
  by_cases hd : d < nd
  · have hdI : (d : Int) < nd := by omega
    have hdM : (d : Int) < nn := by omega
    have hd0 : (0 : Int) ≤ (d : Int) := by omega
    have hml : d < dn.length := by have := HDL.out; omega
    have hdl : d < dd.length := by have := HDDL.out; omega
    obtain ⟨bM, oM, haM, hcellM⟩ := HDN11.out.at (k := d) (by rw [bb_length]; exact hml)
    have hcM := hcellM d (by rw [bb_length]; exact hml)
    have hcD : w11.cell? ⟨A, d, none⟩ = some ((bb dd)[d]'(by rw [bb_length]; exact hdl)) := by
      rw [HROW.out.cellAt d (by omega), List.getElem?_eq_getElem]
    simp only [bb, List.getElem_map] at hcM hcD
    have hmb := getD_lt hml
    have hdb := getD_lt hdl
    obtain ⟨mb, hmbe⟩ : ∃ mb, mb = dn[d] := ⟨_, rfl⟩
    obtain ⟨db, hdbe⟩ : ∃ db, db = dd[d] := ⟨_, rfl⟩
    rw [← hmbe] at hcM hmb
    rw [← hdbe] at hcD hdb
    have CM : Hid (∀ z, Below w11.heap.size w11 z → z.cell? ⟨bM, oM + d, none⟩ = some (.bool mb)) := Lib.hid fun z hz => below_cell hz (World.block_lt_of_cell? w11 _ hcM) hcM
    have CD : Hid (∀ z, Below w11.heap.size w11 z → z.cell? ⟨A, d, none⟩ = some (.bool db)) := Lib.hid fun z hz => below_cell hz (World.block_lt_of_cell? w11 _ hcD) hcD
    have HMB := Lib.hid hmb
    have HDB := Lib.hid hdb
    subst haM
    clear hcellM hcM hcD hmb hdb hmbe hdbe hml hdl
    refine wp_seq_k (fun KA hKA => ?_)
    refine Lin.begin ?_
    refine Lin.take 107 (v := .bool true) rfl rfl (by have h1 := hdI; go_simp <;> with_reducible rfl) (by simp only [Act.put, List.setIfInBounds_toArray, List.set_cons_zero, List.set_cons_succ] <;> rfl) ?_
    refine Lin.done (hKA _ _ ?_)
    refine wp_seq_k (fun KB hKB => ?_)
    refine wp_cond_true rfl ?_
    refine wp_skip ?_
    refine hKB _ _ ?_
    clear hKA hKB KA KB
    refine wp_seq_k (fun KC hKC => ?_)
    refine wp_block ?_
    refine wp_seq_k (fun KD hKD => ?_)
    refine Lin.begin ?_
    refine Lin.take 108 rfl rfl (by go_simp <;> with_reducible rfl) (by simp only [Act.put, List.setIfInBounds_toArray, List.set_cons_zero, List.set_cons_succ] <;> rfl) ?_
    refine Lin.take 15 rfl rfl (by go_simp <;> with_reducible rfl) (by simp only [Act.put, List.setIfInBounds_toArray, List.set_cons_zero, List.set_cons_succ] <;> rfl) ?_
    refine Lin.done (hKD _ _ ?_)
    clear hKD KD
    refine wp_seq_k (fun KD hKD => ?_)
    refine Lin.begin ?_
    refine Lin.mid 109 true 32 _ g 0 (l.arrv ad nd c).toList _ (by kernel_rfl) rfl rfl (fun _ => rfl) (L11.out.below HBW.out hg11).range Try.underlying32 rfl (by kernel_rfl) (by simp only [Act.put, List.setIfInBounds_toArray, List.set_cons_zero, List.set_cons_succ] <;> rfl) ?_
    refine Lin.takeW 16 rfl rfl (by go_simp; exact ⟨rfl, rfl⟩) (by simp only [Act.put, List.setIfInBounds_toArray, List.set_cons_zero, List.set_cons_succ] <;> rfl) ?_
    intro z1 hz1
    obtain ⟨p, hp⟩ : ∃ p, p = wr.heap.size := ⟨_, rfl⟩
    rw [← hp]
    have hrow1 : z1.heap[p]? = some (.cells (lbz.arrv none 0 0) 32 (0, 0)) := by rw [hz1, hp]; exact heap_alloc_new _ _
    have hb1 : Below wr.heap.size wr z1 := by rw [hz1]; exact (Below.refl _ _).alloc (Nat.le_refl _) _
    have HS1z : Hid (z1.heap.size = p + 1) := by rw [hz1, hp]; exact Lib.hid (by simp)
    have HP := Lib.hid hp
    clear hz1 hp
    refine W_store_row 32 p (l.arrv ad nd c) 32 (lbz.arrv none 0 0) rfl rfl hrow1 (by kernel_rfl) rfl (arrv_one _ _ _ _) ?_
    simp only [Act.put]
    obtain ⟨z2, hz2⟩ : ∃ y0, y0 = z1.setRow p (l.arrv ad nd c) := ⟨_, rfl⟩
    rw [← hz2]
    have HR2 : Hid (z2.heap[p]? = some (.cells (l.arrv ad nd c) 32 (0, 0))) := by rw [hz2]; exact Lib.hid (setRow_at hrow1)
    have HZ2 : Hid (Below wr.heap.size wr z2) := by rw [hz2]; exact Lib.hid (below_setRow hb1 (by have := HP.out; omega) _)
    clear hz2 hb1 hrow1
    refine Lin.done (hKD _ _ ?_)
    clear hKD KD
    refine wp_seq_k (fun KE hKE => ?_)
    refine wp_seq_k (fun KF hKF => ?_)
    refine Lin.begin ?_
    refine Lin.take 110 rfl rfl (by go_simp <;> with_reducible rfl) (by simp only [Act.put, List.setIfInBounds_toArray, List.set_cons_zero, List.set_cons_succ] <;> rfl) ?_
    refine Lin.take 111 rfl rfl (by go_simp <;> with_reducible rfl) (by simp only [Act.put, List.setIfInBounds_toArray, List.set_cons_zero, List.set_cons_succ] <;> rfl) ?_
    refine Lin.take 112 (v := .pointer (some ⟨bM, oM + d, none⟩)) rfl rfl (by have h1 := hdM; have h2 := hd0; have h3 := hcapM; go_simp <;> with_reducible rfl) (by simp only [Act.put, List.setIfInBounds_toArray, List.set_cons_zero, List.set_cons_succ] <;> rfl) ?_
    refine Lin.take 113 (v := .bool mb) rfl rfl (by have hc := CM.out _ (HBW.out.trans (HZ2.out.mono HBW.out.size)); go_simp <;> with_reducible rfl) (by simp only [Act.put, List.setIfInBounds_toArray, List.set_cons_zero, List.set_cons_succ] <;> rfl) ?_
    refine Lin.done (hKF _ _ ?_)
    clear hKF KF
    refine wp_cond_split rfl (fun ht => ?_) (fun hf => ?_)
    · subst ht
      refine Lin.begin ?_
      refine Lin.mid 114 true 32 _ q 0 ((nextL l dd x).arrv (some ⟨A, 0, none⟩) nd c2).toList _ (by kernel_rfl) rfl rfl (fun _ => rfl) (M11.out.below (HBW.out.trans (HZ2.out.mono HBW.out.size)) hq11).range Try.underlying32 rfl (by kernel_rfl) (by simp only [Act.put, List.setIfInBounds_toArray, List.set_cons_zero, List.set_cons_succ] <;> rfl) ?_
      refine W_store_row 32 p ((nextL l dd x).arrv (some ⟨A, 0, none⟩) nd c2) 32 (l.arrv ad nd c) rfl rfl HR2.out (by kernel_rfl) rfl (arrv_one _ _ _ _) ?_
      simp only [Act.put]
      obtain ⟨zt, hzt⟩ : ∃ y0, y0 = z2.setRow p ((nextL l dd x).arrv (some ⟨A, 0, none⟩) nd c2) := ⟨_, rfl⟩
      rw [← hzt]
      have HRt : Hid (zt.heap[p]? = some (.cells ((nextL l dd x).arrv (some ⟨A, 0, none⟩) nd c2) 32 (0, 0))) := by rw [hzt]; exact Lib.hid (setRow_at HR2.out)
      have HZt : Hid (Below wr.heap.size wr zt) := by rw [hzt]; exact Lib.hid (below_setRow HZ2.out (by have := HP.out; omega) _)
      clear hzt
      refine Lin.done (hKE _ _ ?_)
      clear hKE KE
      refine wp_seq_k (fun KD hKD => ?_)
      refine Lin.begin ?_
      refine Lin.take 115 rfl rfl (by go_simp <;> with_reducible rfl) (by simp only [Act.put, List.setIfInBounds_toArray, List.set_cons_zero, List.set_cons_succ] <;> rfl) ?_
      refine Lin.take 116 rfl rfl (by go_simp <;> with_reducible rfl) (by simp only [Act.put, List.setIfInBounds_toArray, List.set_cons_zero, List.set_cons_succ] <;> rfl) ?_
      refine Lin.store (w' := zt.setCell ⟨p, 1, none⟩ (.int .i64 (d : Int))) rfl (by have hc := (LbAt.of HRt.out).k1; have hf := frozen_of_row zt p 1 _ _ HRt.out; go_simp <;> (first | exact ⟨rfl, rfl⟩ | rfl)) (by simp only [Act.put] <;> rfl) ?_
      intro z3 hz3
      have HR3 : Hid (z3.heap[p]? = some (.cells (((nextL l dd x).at (d : Int)).arrv (some ⟨A, 0, none⟩) nd c2) 32 (0, 0))) := by
        rw [hz3, heap_setCell_same zt p 1 _ _ _ HRt.out]
        exact Lib.hid rfl
      have HZ3 : Hid (Below wr.heap.size wr z3) := by rw [hz3]; exact Lib.hid (HZt.out.setCell (p := ⟨p, 1, none⟩) (by rw [HP.out]; exact Nat.le_refl _) _)
      clear hz3
      refine Lin.done (hKD _ _ ?_)
      clear hKD KD
      refine wp_seq_k (fun KD hKD => ?_)
      refine Lin.begin ?_
      refine Lin.take 117 rfl rfl (by go_simp <;> with_reducible rfl) (by simp only [Act.put, List.setIfInBounds_toArray, List.set_cons_zero, List.set_cons_succ] <;> rfl) ?_
      refine Lin.mid 118 true 32 _ p 0 (((nextL l dd x).at (d : Int)).arrv (some ⟨A, 0, none⟩) nd c2).toList _ (by kernel_rfl) rfl rfl (fun _ => rfl) (LbAt.of HR3.out).range Try.underlying32 rfl (by kernel_rfl) (by simp only [Act.put, List.setIfInBounds_toArray, List.set_cons_zero, List.set_cons_succ] <;> rfl) ?_
      obtain ⟨ie, hie, hiz, his, hib⟩ := info_parts info_labelB
      refine wpList_buildSlice rfl 22 32 1 _ rfl (lcs [⟨(nextL l dd x).at (d : Int), (some ⟨A, 0, none⟩), nd, c2⟩]).toArray ie (.agg (lbz.arrv none 0 0)) Try.underlying22 hie hiz (by rw [his]; decide) (by rw [his]; decide) (by rw [his]; kernel_rfl) ?_
      obtain ⟨z4, hz4⟩ : ∃ z, z = z3.alloc (.cells (lcs [⟨(nextL l dd x).at (d : Int), (some ⟨A, 0, none⟩), nd, c2⟩]).toArray 32) := ⟨_, rfl⟩
      rw [← hz4]
      simp only [Act.put, List.setIfInBounds_toArray, List.set_cons_zero, List.set_cons_succ] 
      have HS4 : Hid (Sl z4 19 (some ⟨z3.heap.size, 0, none⟩) 1 1 (lcs [⟨(nextL l dd x).at (d : Int), (some ⟨A, 0, none⟩), nd, c2⟩])) := by
        rw [hz4]
        refine Lib.hid (Sl.of_owns (World.ownsRow_lit (base := 0) (e := 32) (size := 19) z3 (lcs [⟨(nextL l dd x).at (d : Int), (some ⟨A, 0, none⟩), nd, c2⟩]).toArray 1 (Nat.zero_le _) (by decide) (by simp [lcs_length])) (fun u hu => ?_)).2
        obtain ⟨x9, hx9, hu⟩ := List.mem_flatMap.1 hu
        exact x9.arr_one u hu
      have HZ4 : Hid (Below wr.heap.size wr z4) := by rw [hz4]; exact Lib.hid (HZ3.out.alloc HZ3.out.size _)
      have HOL4 := Lib.hid (owns_belowI HROWL.out HZ4.out)
      have HOB4 := Lib.hid (owns_belowI HROWB.out HZ4.out)
      clear hz4
      refine wpList_plain rfl fun KP hKP => ?_
      refine wp_append_sl z4 (.tmp 117) (.tmp 119) 22 rfl w11.heap.size 32 ie (.agg (lbz.arrv none 0 0)) 19 168 Try.underlying22 hie hiz his hib rfl (by decide) _ d (lcs (intX l (nextL l dd x) ad nd c (some ⟨A, 0, none⟩) nd c2 dn d)) rfl HOL4.out _ 1 1 _ rfl HS4.out (by unfold maxLen; omega) (by omega) (by have h1 := HBW.out.size; have h2 := HZ4.out.size; omega) ?_
      intro a5 c5 z5 hown5 hg5
      refine hKP _ _ ?_
      clear hKP KP hie hiz his hib
      simp only [Act.put, List.setIfInBounds_toArray, List.set_cons_zero, List.set_cons_succ] 
      have HOL5 : Hid (z5.ownsRow w11.heap.size 32 19 (.slice a5 (d + 1) c5) (d + 1) (lcs (intX l (nextL l dd x) ad nd c (some ⟨A, 0, none⟩) nd c2 dn (d + 1)))) := by
        rw [intX_succ, HMB.out, lcs, List.flatMap_append]
        exact Lib.hid hown5
      have HOB5 : Hid (z5.ownsRow w11.heap.size 4 1 (.slice a3 d c3) d (bb (intR dd d))) := Lib.hid (World.ownsRow.kept HOB4.out hg5 (rows_apartI HOB4.out HOL4.out (by decide)))
      have HZ25 : Hid (Below w11.heap.size w11 z5) := Lib.hid (HBW.out.trans (HZ4.out.mono HBW.out.size) |>.grown hg5 (by have h1 := HBW.out.size; have h2 := HZ4.out.size; omega) (fun k hk => (HOL4.out.lt k hk).1))
      clear hown5 hg5
      refine Lin.take 12 rfl rfl (by go_simp <;> with_reducible rfl) (by simp only [Act.put, List.setIfInBounds_toArray, List.set_cons_zero, List.set_cons_succ] <;> rfl) ?_
      refine Lin.done (hKD _ _ ?_)
      clear hKD KD
      refine wp_seq_k (fun KD hKD => ?_)
      refine Lin.begin ?_
      refine Lin.take 121 rfl rfl (by go_simp <;> with_reducible rfl) (by simp only [Act.put, List.setIfInBounds_toArray, List.set_cons_zero, List.set_cons_succ] <;> rfl) ?_
      refine Lin.take 122 rfl rfl (by go_simp <;> with_reducible rfl) (by simp only [Act.put, List.setIfInBounds_toArray, List.set_cons_zero, List.set_cons_succ] <;> rfl) ?_
      refine Lin.take 123 (v := .slice (some ⟨A, 0, none⟩) nd c2) rfl rfl (by have hk := (M11.out.below HZ25.out hq11).k15; go_simp <;> with_reducible rfl) (by simp only [Act.put, List.setIfInBounds_toArray, List.set_cons_zero, List.set_cons_succ] <;> rfl) ?_
      refine Lin.take 124 rfl rfl (by go_simp <;> with_reducible rfl) (by simp only [Act.put, List.setIfInBounds_toArray, List.set_cons_zero, List.set_cons_succ] <;> rfl) ?_
      refine Lin.take 125 (v := .pointer (some ⟨A, d, none⟩)) rfl rfl (by have h1 := hdI; have h2 := hd0; have h3 := hcap2; go_simp <;> (first | with_reducible rfl | simp)) (by simp only [Act.put, List.setIfInBounds_toArray, List.set_cons_zero, List.set_cons_succ] <;> rfl) ?_
      refine Lin.take 126 (v := .bool db) rfl rfl (by have hc := CD.out _ HZ25.out; go_simp <;> with_reducible rfl) (by simp only [Act.put, List.setIfInBounds_toArray, List.set_cons_zero, List.set_cons_succ] <;> rfl) ?_
      refine Lin.take 127 (v := .bool (!db)) rfl rfl (by go_simp <;> with_reducible rfl) (by simp only [Act.put, List.setIfInBounds_toArray, List.set_cons_zero, List.set_cons_succ] <;> rfl) ?_
      refine Lin.takeW 128 rfl rfl (by go_simp; exact ⟨rfl, rfl⟩) (by simp only [Act.put, List.setIfInBounds_toArray, List.set_cons_zero, List.set_cons_succ] <;> rfl) ?_
      intro z6 hz6
      have HT6 : Hid (Sl z6 1 (some ⟨z5.heap.size, 0, none⟩) 1 1 (bb [!db])) := by rw [hz6]; exact Lib.hid (Sl.single z5 _ _ rfl)
      have HOL6 := Lib.hid (HOL5.out.alloc (.cells #[.bool (!db)] 4))
      have HOB6 := Lib.hid (HOB5.out.alloc (.cells #[.bool (!db)] 4))
      have HZ26 := Lib.hid (HZ25.out.alloc HZ25.out.size (.cells #[.bool (!db)] 4))
      rw [← hz6] at HOL6 HOB6 HZ26
      clear hz6
      refine wpList_appendT z6 4 (.bool false) 1 (by kernel_rfl) rfl (by decide) rfl (.tmp 121) (.tmp 128) Try.underlying23 rfl w11.heap.size _ d (bb (intR dd d)) rfl HOB6.out _ 1 1 _ rfl HT6.out (by omega) HZ26.out.size ?_
      intro a7 c7 z7 hown7 hg7
      simp only [Act.put, List.setIfInBounds_toArray, List.set_cons_zero, List.set_cons_succ] 
      have HOB7 : Hid (z7.ownsRow w11.heap.size 4 1 (.slice a7 (d + 1) c7) (d + 1) (bb (intR dd (d + 1)))) := by
        rw [intR_succ, HDB.out]
        simpa [bb] using Lib.hid hown7
      have HOL7 : Hid (z7.ownsRow w11.heap.size 32 19 (.slice a5 (d + 1) c5) (d + 1) (lcs (intX l (nextL l dd x) ad nd c (some ⟨A, 0, none⟩) nd c2 dn (d + 1)))) := Lib.hid (World.ownsRow.kept HOL6.out hg7 (rows_apartI HOL6.out HOB6.out (by decide)))
      have HZ27 : Hid (Below w11.heap.size w11 z7) := Lib.hid (HZ26.out.grown hg7 HZ26.out.size (fun k hk => (HOB6.out.lt k hk).1))
      clear hown7 hg7
      refine Lin.take 13 rfl rfl (by go_simp <;> with_reducible rfl) (by simp only [Act.put, List.setIfInBounds_toArray, List.set_cons_zero, List.set_cons_succ] <;> rfl) ?_
      refine Lin.done (hKD _ _ ?_)
      clear hKD KD
      refine Lin.begin ?_
      refine Lin.take 130 rfl rfl (by go_simp <;> with_reducible rfl) (by simp only [Act.put, List.setIfInBounds_toArray, List.set_cons_zero, List.set_cons_succ] <;> rfl) ?_
      refine Lin.bool 131 (x := B) rfl rfl (by go_simp <;> with_reducible rfl) ?_
      intro B131 hB131 aa ha; simp only [Act.put, List.setIfInBounds_toArray, List.set_cons_zero, List.set_cons_succ] at ha; subst ha; replace hB131 := Lib.hid hB131
      refine Lin.may 132 (!B131) (by cases B131 <;> kernel_rfl) rfl (by intro hc; (try simp only [hc, gv_true]); go_simp <;> with_reducible rfl) (by simp only [Act.put, List.setIfInBounds_toArray, List.set_cons_zero, List.set_cons_succ] <;> rfl) ?_
      refine Lin.may 133 (!B131) (by cases B131 <;> kernel_rfl) rfl (by intro hc; (try simp only [hc, gv_true]); go_simp <;> with_reducible rfl) (by simp only [Act.put, List.setIfInBounds_toArray, List.set_cons_zero, List.set_cons_succ] <;> rfl) ?_
      refine Lin.may 134 (!B131) (v := .pointer (some ⟨bM, oM + d, none⟩)) (by cases B131 <;> kernel_rfl) rfl (by intro hc; (try simp only [hc, gv_true]); have h1 := hdM; have h2 := hd0; have h3 := hcapM; go_simp <;> with_reducible rfl) (by simp only [Act.put, List.setIfInBounds_toArray, List.set_cons_zero, List.set_cons_succ] <;> rfl) ?_
      refine Lin.may 135 (!B131) (v := .bool true) (by cases B131 <;> kernel_rfl) rfl (by intro hc; (try simp only [hc, gv_true]); have hk := CM.out _ HZ27.out; go_simp <;> with_reducible rfl) (by simp only [Act.put, List.setIfInBounds_toArray, List.set_cons_zero, List.set_cons_succ] <;> rfl) ?_
      refine Lin.may 136 (!B131) (v := .bool true) (by cases B131 <;> kernel_rfl) rfl (by intro hc; (try simp only [hc, gv_true]); go_simp <;> with_reducible rfl) (by simp only [Act.put, List.setIfInBounds_toArray, List.set_cons_zero, List.set_cons_succ] <;> rfl) ?_
      refine Lin.may 137 (!B131) (v := .pointer (some ⟨q, 15, none⟩)) (by cases B131 <;> kernel_rfl) rfl (by intro hc; (try simp only [hc, gv_true]); go_simp <;> (first | with_reducible rfl | simp)) (by simp only [Act.put, List.setIfInBounds_toArray, List.set_cons_zero, List.set_cons_succ] <;> rfl) ?_
      refine Lin.may 138 (!B131) (v := .slice (some ⟨A, 0, none⟩) nd c2) (by cases B131 <;> kernel_rfl) rfl (by intro hc; (try simp only [hc, gv_true]); have hk := (M11.out.below HZ27.out hq11).k15; go_simp <;> (first | with_reducible rfl | simp)) (by simp only [Act.put, List.setIfInBounds_toArray, List.set_cons_zero, List.set_cons_succ] <;> rfl) ?_
      refine Lin.may 139 (!B131) (v := .int .i64 (d : Int)) (by cases B131 <;> kernel_rfl) rfl (by intro hc; (try simp only [hc, gv_true]); go_simp <;> (first | with_reducible rfl | simp)) (by simp only [Act.put, List.setIfInBounds_toArray, List.set_cons_zero, List.set_cons_succ] <;> rfl) ?_
      refine Lin.may 140 (!B131) (v := .pointer (some ⟨A, d, none⟩)) (by cases B131 <;> kernel_rfl) rfl (by intro hc; (try simp only [hc, gv_true]); have h1 := hdI; have h2 := hd0; have h3 := hcap2; go_simp <;> (first | with_reducible rfl | simp)) (by simp only [Act.put, List.setIfInBounds_toArray, List.set_cons_zero, List.set_cons_succ] <;> rfl) ?_
      refine Lin.may 141 (!B131) (v := .bool db) (by cases B131 <;> kernel_rfl) rfl (by intro hc; (try simp only [hc, gv_true]); have hk := CD.out _ HZ27.out; go_simp <;> (first | with_reducible rfl | simp)) (by simp only [Act.put, List.setIfInBounds_toArray, List.set_cons_zero, List.set_cons_succ] <;> rfl) ?_
      refine Lin.may 142 (!B131) (v := .bool (!db)) (by cases B131 <;> kernel_rfl) rfl (by intro hc; (try simp only [hc, gv_true]); go_simp <;> (first | with_reducible rfl | simp)) (by simp only [Act.put, List.setIfInBounds_toArray, List.set_cons_zero, List.set_cons_succ] <;> rfl) ?_
      refine Lin.may 143 (!B131) (v := .bool (!db)) (by cases B131 <;> kernel_rfl) rfl (by intro hc; (try simp only [hc, gv_true, gv_false]); go_simp) (by simp only [Act.put, List.setIfInBounds_toArray, List.set_cons_zero, List.set_cons_succ] <;> rfl) ?_
      refine Lin.or 144 131 143 rfl rfl rfl rfl rfl ?_
      intro B144 hB144 aa ha; simp only [Act.put, List.setIfInBounds_toArray, List.set_cons_zero, List.set_cons_succ] at ha; subst ha; replace hB144 := Lib.hid hB144
      refine Lin.take 14 rfl rfl (by go_simp <;> with_reducible rfl) (by simp only [Act.put, List.setIfInBounds_toArray, List.set_cons_zero, List.set_cons_succ] <;> rfl) ?_
      refine Lin.end ?_
      have HBN : Hid (B144 = intA dn dd (d + 1)) := by
        rw [hB144.out, hB131.out, HBE.out, intA_succ, HMB.out, HDB.out]
        exact Lib.hid rfl
      clear hB144 hB131
      (try simp only [Exit.inBlock, Exit.then])
      refine hKC _ _ ?_
      go_wp2
      go_roundw
      case rel => exact ⟨d + 1, a5, c5, a7, c7, B144, by go_num, by omega, rfl, rfl, rfl, HBN, HOL7, HOB7, HZ27⟩
      case measure => simp [intOf]; omega
    · subst hf
      refine wp_skip ?_
      refine hKE _ _ ?_
      clear hKE KE
      refine wp_seq_k (fun KD hKD => ?_)
      refine Lin.begin ?_
      refine Lin.take 115 rfl rfl (by go_simp <;> with_reducible rfl) (by simp only [Act.put, List.setIfInBounds_toArray, List.set_cons_zero, List.set_cons_succ] <;> rfl) ?_
      refine Lin.take 116 rfl rfl (by go_simp <;> with_reducible rfl) (by simp only [Act.put, List.setIfInBounds_toArray, List.set_cons_zero, List.set_cons_succ] <;> rfl) ?_
      refine Lin.store (w' := z2.setCell ⟨p, 1, none⟩ (.int .i64 (d : Int))) rfl (by have hc := (LbAt.of HR2.out).k1; have hf := frozen_of_row z2 p 1 _ _ HR2.out; go_simp <;> (first | exact ⟨rfl, rfl⟩ | rfl)) (by simp only [Act.put] <;> rfl) ?_
      intro z3 hz3
      have HR3 : Hid (z3.heap[p]? = some (.cells ((l.at (d : Int)).arrv ad nd c) 32 (0, 0))) := by
        rw [hz3, heap_setCell_same z2 p 1 _ _ _ HR2.out]
        exact Lib.hid rfl
      have HZ3 : Hid (Below wr.heap.size wr z3) := by rw [hz3]; exact Lib.hid (HZ2.out.setCell (p := ⟨p, 1, none⟩) (by rw [HP.out]; exact Nat.le_refl _) _)
      clear hz3
      refine Lin.done (hKD _ _ ?_)
      clear hKD KD
      refine wp_seq_k (fun KD hKD => ?_)
      refine Lin.begin ?_
      refine Lin.take 117 rfl rfl (by go_simp <;> with_reducible rfl) (by simp only [Act.put, List.setIfInBounds_toArray, List.set_cons_zero, List.set_cons_succ] <;> rfl) ?_
      refine Lin.mid 118 true 32 _ p 0 ((l.at (d : Int)).arrv ad nd c).toList _ (by kernel_rfl) rfl rfl (fun _ => rfl) (LbAt.of HR3.out).range Try.underlying32 rfl (by kernel_rfl) (by simp only [Act.put, List.setIfInBounds_toArray, List.set_cons_zero, List.set_cons_succ] <;> rfl) ?_
      obtain ⟨ie, hie, hiz, his, hib⟩ := info_parts info_labelB
      refine wpList_buildSlice rfl 22 32 1 _ rfl (lcs [⟨l.at (d : Int), ad, nd, c⟩]).toArray ie (.agg (lbz.arrv none 0 0)) Try.underlying22 hie hiz (by rw [his]; decide) (by rw [his]; decide) (by rw [his]; kernel_rfl) ?_
      obtain ⟨z4, hz4⟩ : ∃ z, z = z3.alloc (.cells (lcs [⟨l.at (d : Int), ad, nd, c⟩]).toArray 32) := ⟨_, rfl⟩
      rw [← hz4]
      simp only [Act.put, List.setIfInBounds_toArray, List.set_cons_zero, List.set_cons_succ] 
      have HS4 : Hid (Sl z4 19 (some ⟨z3.heap.size, 0, none⟩) 1 1 (lcs [⟨l.at (d : Int), ad, nd, c⟩])) := by
        rw [hz4]
        refine Lib.hid (Sl.of_owns (World.ownsRow_lit (base := 0) (e := 32) (size := 19) z3 (lcs [⟨l.at (d : Int), ad, nd, c⟩]).toArray 1 (Nat.zero_le _) (by decide) (by simp [lcs_length])) (fun u hu => ?_)).2
        obtain ⟨x9, hx9, hu⟩ := List.mem_flatMap.1 hu
        exact x9.arr_one u hu
      have HZ4 : Hid (Below wr.heap.size wr z4) := by rw [hz4]; exact Lib.hid (HZ3.out.alloc HZ3.out.size _)
      have HOL4 := Lib.hid (owns_belowI HROWL.out HZ4.out)
      have HOB4 := Lib.hid (owns_belowI HROWB.out HZ4.out)
      clear hz4
      refine wpList_plain rfl fun KP hKP => ?_
      refine wp_append_sl z4 (.tmp 117) (.tmp 119) 22 rfl w11.heap.size 32 ie (.agg (lbz.arrv none 0 0)) 19 168 Try.underlying22 hie hiz his hib rfl (by decide) _ d (lcs (intX l (nextL l dd x) ad nd c (some ⟨A, 0, none⟩) nd c2 dn d)) rfl HOL4.out _ 1 1 _ rfl HS4.out (by unfold maxLen; omega) (by omega) (by have h1 := HBW.out.size; have h2 := HZ4.out.size; omega) ?_
      intro a5 c5 z5 hown5 hg5
      refine hKP _ _ ?_
      clear hKP KP hie hiz his hib
      simp only [Act.put, List.setIfInBounds_toArray, List.set_cons_zero, List.set_cons_succ] 
      have HOL5 : Hid (z5.ownsRow w11.heap.size 32 19 (.slice a5 (d + 1) c5) (d + 1) (lcs (intX l (nextL l dd x) ad nd c (some ⟨A, 0, none⟩) nd c2 dn (d + 1)))) := by
        rw [intX_succ, HMB.out, lcs, List.flatMap_append]
        exact Lib.hid hown5
      have HOB5 : Hid (z5.ownsRow w11.heap.size 4 1 (.slice a3 d c3) d (bb (intR dd d))) := Lib.hid (World.ownsRow.kept HOB4.out hg5 (rows_apartI HOB4.out HOL4.out (by decide)))
      have HZ25 : Hid (Below w11.heap.size w11 z5) := Lib.hid (HBW.out.trans (HZ4.out.mono HBW.out.size) |>.grown hg5 (by have h1 := HBW.out.size; have h2 := HZ4.out.size; omega) (fun k hk => (HOL4.out.lt k hk).1))
      clear hown5 hg5
      refine Lin.take 12 rfl rfl (by go_simp <;> with_reducible rfl) (by simp only [Act.put, List.setIfInBounds_toArray, List.set_cons_zero, List.set_cons_succ] <;> rfl) ?_
      refine Lin.done (hKD _ _ ?_)
      clear hKD KD
      refine wp_seq_k (fun KD hKD => ?_)
      refine Lin.begin ?_
      refine Lin.take 121 rfl rfl (by go_simp <;> with_reducible rfl) (by simp only [Act.put, List.setIfInBounds_toArray, List.set_cons_zero, List.set_cons_succ] <;> rfl) ?_
      refine Lin.take 122 rfl rfl (by go_simp <;> with_reducible rfl) (by simp only [Act.put, List.setIfInBounds_toArray, List.set_cons_zero, List.set_cons_succ] <;> rfl) ?_
      refine Lin.take 123 (v := .slice (some ⟨A, 0, none⟩) nd c2) rfl rfl (by have hk := (M11.out.below HZ25.out hq11).k15; go_simp <;> with_reducible rfl) (by simp only [Act.put, List.setIfInBounds_toArray, List.set_cons_zero, List.set_cons_succ] <;> rfl) ?_
      refine Lin.take 124 rfl rfl (by go_simp <;> with_reducible rfl) (by simp only [Act.put, List.setIfInBounds_toArray, List.set_cons_zero, List.set_cons_succ] <;> rfl) ?_
      refine Lin.take 125 (v := .pointer (some ⟨A, d, none⟩)) rfl rfl (by have h1 := hdI; have h2 := hd0; have h3 := hcap2; go_simp <;> (first | with_reducible rfl | simp)) (by simp only [Act.put, List.setIfInBounds_toArray, List.set_cons_zero, List.set_cons_succ] <;> rfl) ?_
      refine Lin.take 126 (v := .bool db) rfl rfl (by have hc := CD.out _ HZ25.out; go_simp <;> with_reducible rfl) (by simp only [Act.put, List.setIfInBounds_toArray, List.set_cons_zero, List.set_cons_succ] <;> rfl) ?_
      refine Lin.take 127 (v := .bool (!db)) rfl rfl (by go_simp <;> with_reducible rfl) (by simp only [Act.put, List.setIfInBounds_toArray, List.set_cons_zero, List.set_cons_succ] <;> rfl) ?_
      refine Lin.takeW 128 rfl rfl (by go_simp; exact ⟨rfl, rfl⟩) (by simp only [Act.put, List.setIfInBounds_toArray, List.set_cons_zero, List.set_cons_succ] <;> rfl) ?_
      intro z6 hz6
      have HT6 : Hid (Sl z6 1 (some ⟨z5.heap.size, 0, none⟩) 1 1 (bb [!db])) := by rw [hz6]; exact Lib.hid (Sl.single z5 _ _ rfl)
      have HOL6 := Lib.hid (HOL5.out.alloc (.cells #[.bool (!db)] 4))
      have HOB6 := Lib.hid (HOB5.out.alloc (.cells #[.bool (!db)] 4))
      have HZ26 := Lib.hid (HZ25.out.alloc HZ25.out.size (.cells #[.bool (!db)] 4))
      rw [← hz6] at HOL6 HOB6 HZ26
      clear hz6
      refine wpList_appendT z6 4 (.bool false) 1 (by kernel_rfl) rfl (by decide) rfl (.tmp 121) (.tmp 128) Try.underlying23 rfl w11.heap.size _ d (bb (intR dd d)) rfl HOB6.out _ 1 1 _ rfl HT6.out (by omega) HZ26.out.size ?_
      intro a7 c7 z7 hown7 hg7
      simp only [Act.put, List.setIfInBounds_toArray, List.set_cons_zero, List.set_cons_succ] 
      have HOB7 : Hid (z7.ownsRow w11.heap.size 4 1 (.slice a7 (d + 1) c7) (d + 1) (bb (intR dd (d + 1)))) := by
        rw [intR_succ, HDB.out]
        simpa [bb] using Lib.hid hown7
      have HOL7 : Hid (z7.ownsRow w11.heap.size 32 19 (.slice a5 (d + 1) c5) (d + 1) (lcs (intX l (nextL l dd x) ad nd c (some ⟨A, 0, none⟩) nd c2 dn (d + 1)))) := Lib.hid (World.ownsRow.kept HOL6.out hg7 (rows_apartI HOL6.out HOB6.out (by decide)))
      have HZ27 : Hid (Below w11.heap.size w11 z7) := Lib.hid (HZ26.out.grown hg7 HZ26.out.size (fun k hk => (HOB6.out.lt k hk).1))
      clear hown7 hg7
      refine Lin.take 13 rfl rfl (by go_simp <;> with_reducible rfl) (by simp only [Act.put, List.setIfInBounds_toArray, List.set_cons_zero, List.set_cons_succ] <;> rfl) ?_
      refine Lin.done (hKD _ _ ?_)
      clear hKD KD
      refine Lin.begin ?_
      refine Lin.take 130 rfl rfl (by go_simp <;> with_reducible rfl) (by simp only [Act.put, List.setIfInBounds_toArray, List.set_cons_zero, List.set_cons_succ] <;> rfl) ?_
      refine Lin.bool 131 (x := B) rfl rfl (by go_simp <;> with_reducible rfl) ?_
      intro B131 hB131 aa ha; simp only [Act.put, List.setIfInBounds_toArray, List.set_cons_zero, List.set_cons_succ] at ha; subst ha; replace hB131 := Lib.hid hB131
      refine Lin.may 132 (!B131) (by cases B131 <;> kernel_rfl) rfl (by intro hc; (try simp only [hc, gv_true]); go_simp <;> with_reducible rfl) (by simp only [Act.put, List.setIfInBounds_toArray, List.set_cons_zero, List.set_cons_succ] <;> rfl) ?_
      refine Lin.may 133 (!B131) (by cases B131 <;> kernel_rfl) rfl (by intro hc; (try simp only [hc, gv_true]); go_simp <;> with_reducible rfl) (by simp only [Act.put, List.setIfInBounds_toArray, List.set_cons_zero, List.set_cons_succ] <;> rfl) ?_
      refine Lin.may 134 (!B131) (v := .pointer (some ⟨bM, oM + d, none⟩)) (by cases B131 <;> kernel_rfl) rfl (by intro hc; (try simp only [hc, gv_true]); have h1 := hdM; have h2 := hd0; have h3 := hcapM; go_simp <;> with_reducible rfl) (by simp only [Act.put, List.setIfInBounds_toArray, List.set_cons_zero, List.set_cons_succ] <;> rfl) ?_
      refine Lin.may 135 (!B131) (v := .bool false) (by cases B131 <;> kernel_rfl) rfl (by intro hc; (try simp only [hc, gv_true]); have hk := CM.out _ HZ27.out; go_simp <;> with_reducible rfl) (by simp only [Act.put, List.setIfInBounds_toArray, List.set_cons_zero, List.set_cons_succ] <;> rfl) ?_
      refine Lin.may 136 (!B131) (v := .bool false) (by cases B131 <;> kernel_rfl) rfl (by intro hc; (try simp only [hc, gv_true]); go_simp <;> with_reducible rfl) (by simp only [Act.put, List.setIfInBounds_toArray, List.set_cons_zero, List.set_cons_succ] <;> rfl) ?_
      refine Lin.may 137 false (v := undef) (by cases B131 <;> kernel_rfl) rfl (by intro hc; cases hc) (by simp only [Act.put, List.setIfInBounds_toArray, List.set_cons_zero, List.set_cons_succ] <;> rfl) ?_
      refine Lin.may 138 false (v := undef) (by cases B131 <;> kernel_rfl) rfl (by intro hc; cases hc) (by simp only [Act.put, List.setIfInBounds_toArray, List.set_cons_zero, List.set_cons_succ] <;> rfl) ?_
      refine Lin.may 139 false (v := undef) (by cases B131 <;> kernel_rfl) rfl (by intro hc; cases hc) (by simp only [Act.put, List.setIfInBounds_toArray, List.set_cons_zero, List.set_cons_succ] <;> rfl) ?_
      refine Lin.may 140 false (v := undef) (by cases B131 <;> kernel_rfl) rfl (by intro hc; cases hc) (by simp only [Act.put, List.setIfInBounds_toArray, List.set_cons_zero, List.set_cons_succ] <;> rfl) ?_
      refine Lin.may 141 false (v := undef) (by cases B131 <;> kernel_rfl) rfl (by intro hc; cases hc) (by simp only [Act.put, List.setIfInBounds_toArray, List.set_cons_zero, List.set_cons_succ] <;> rfl) ?_
      refine Lin.may 142 false (v := undef) (by cases B131 <;> kernel_rfl) rfl (by intro hc; cases hc) (by simp only [Act.put, List.setIfInBounds_toArray, List.set_cons_zero, List.set_cons_succ] <;> rfl) ?_
      refine Lin.may 143 (!B131) (v := .bool false) (by cases B131 <;> kernel_rfl) rfl (by intro hc; (try simp only [hc, gv_true, gv_false]); go_simp) (by simp only [Act.put, List.setIfInBounds_toArray, List.set_cons_zero, List.set_cons_succ] <;> rfl) ?_
      refine Lin.or 144 131 143 rfl rfl rfl rfl rfl ?_
      intro B144 hB144 aa ha; simp only [Act.put, List.setIfInBounds_toArray, List.set_cons_zero, List.set_cons_succ] at ha; subst ha; replace hB144 := Lib.hid hB144
      refine Lin.take 14 rfl rfl (by go_simp <;> with_reducible rfl) (by simp only [Act.put, List.setIfInBounds_toArray, List.set_cons_zero, List.set_cons_succ] <;> rfl) ?_
      refine Lin.end ?_
      have HBN : Hid (B144 = intA dn dd (d + 1)) := by
        rw [hB144.out, hB131.out, HBE.out, intA_succ, HMB.out, HDB.out]
        exact Lib.hid rfl
      clear hB144 hB131
      (try simp only [Exit.inBlock, Exit.then])
      refine hKC _ _ ?_
      go_wp2
      go_roundw
      case rel => exact ⟨d + 1, a5, c5, a7, c7, B144, by go_num, by omega, rfl, rfl, rfl, HBN, HOL7, HOB7, HZ27⟩
      case measure => simp [intOf]; omega
  have hdI : ¬ (d : Int) < nd := by omega
  obtain rfl : nd = d := by omega
  go_wp2
  refine HKL.out _ _ ?_
  clear HKL
  obtain ⟨wz, hwz⟩ : ∃ wz, wz = wr := ⟨_, rfl⟩
  subst hwz
  have hsl1 := (Sl.of_owns HROWL.out (fun u hu => by obtain ⟨x9, hx9, hu⟩ := List.mem_flatMap.1 hu; exact x9.arr_one u hu)).2
  have HXS : Hid (Lbs wz a1 nd c1 (intX l (nextL l dd x) ad nd c (some ⟨A, 0, none⟩) nd c2 dn nd)) := Lib.hid ⟨hsl1, fun y hy => by
    unfold intX at hy
    obtain ⟨i, _, rfl⟩ := List.mem_map.1 hy
    split
    · exact HDD11.out.below HBW.out
    · exact HOLD11.out.below HBW.out⟩
  have HRS : Hid (Sl wz 1 a3 nd c3 (bb (intR dd nd))) := Lib.hid (Sl.of_owns HROWB.out (bb_one _)).2
  have HOKX : Hid (∀ y ∈ intX l (nextL l dd x) ad nd c (some ⟨A, 0, none⟩) nd c2 dn nd, y.l.ok) := Lib.hid fun y hy => by
    unfold intX at hy
    obtain ⟨i, hi, rfl⟩ := List.mem_map.1 hy
    have hi := List.mem_range.1 hi
    have h1 := HNUM.out.ok (by have := HNL.out; omega)
    have h2 := HDDL.out
    have hv := valid_dk HVAL.out
    obtain ⟨b0, b1, b2, b3, b4, b5, b6, b7, b8, b9, b10, b11, b12, b13, b14, b15, b16, b17, b18, b19, b20⟩ := h1
    split
    · exact ⟨b0, b1, (show -9223372036854775808 ≤ (i : Int) by omega), (show (i : Int) ≤ 9223372036854775807 by omega), (show 0 ≤ l.gen + 1 by omega), (show l.gen + 1 < 18446744073709551616 by omega), b4, b5, b8, b9, b10, b11, b12, b13, b14, b15, hx0, hx1, (show 0 ≤ x / 2 by omega), (show x / 2 < 18446744073709551616 by omega), (show dd.length ≤ 1000000 by omega)⟩
    · exact ⟨b0, b1, (show -9223372036854775808 ≤ (i : Int) by omega), (show (i : Int) ≤ 9223372036854775807 by omega), b4, b5, b6, b7, b8, b9, b10, b11, b12, b13, b14, b15, b16, b17, b18, b19, b20⟩
  obtain ⟨le, zs, e1, e2, e3, e4, e5⟩ := interrupted_law HVAL.out hgen HNL.out HDDL.out (fun i hi h9 => by rw [HDDG.out i hi, h9]; rfl) (by have := HKC.out; omega) x ad nd c (some ⟨A, 0, none⟩) nd c2 dn
  obtain ⟨er, her⟩ : ∃ er : Int, er = 0 := ⟨0, rfl⟩
  have HEL1 := Lib.hid (ElRes.named (le := le) (zs := zs) (er := er) (by rw [e1]) (by rw [e1]) (by rw [e1, her]) (elect_any (intX l (nextL l dd x) ad nd c (some ⟨A, 0, none⟩) nd c2 dn nd) a1 nd c1 (intR dd nd) a3 nd c3 wz HXS.out HRS.out HOKX.out (by omega)))
  have HBz := Lib.hid (HB11.out.trans (HBW.out.mono HB11.out.size))
  have HE3 := Lib.hid e3
  have HE4 := Lib.hid e4
  have HE5 := Lib.hid e5
  have HE2 := Lib.hid e2
  have hsz := HBW.out.size
  clear hsl1 e1 e2 e3 e4 e5 hdn hdI hd
  refine wp_seq_k (fun K hK => ?_)
  refine Lin.begin ?_
  refine Lin.take 147 rfl rfl (by go_simp <;> with_reducible rfl) (by simp only [Act.put, List.setIfInBounds_toArray, List.set_cons_zero, List.set_cons_succ] <;> rfl) ?_
  refine Lin.take 148 rfl rfl (by go_simp <;> with_reducible rfl) (by simp only [Act.put, List.setIfInBounds_toArray, List.set_cons_zero, List.set_cons_succ] <;> rfl) ?_
  refine Lin.enterX (fun r : (Option Addr × Nat × Nat) × (Option Addr × Nat × Nat) => .tuple #[.agg (le.arrv r.1.1 r.1.2.1 r.1.2.2), .slice r.2.1 r.2.2.1 r.2.2.2, .int .i64 er]) 149 rfl rfl (by go_simp <;> (first | exact ⟨rfl, rfl⟩ | rfl)) HEL1.out ?_
  rintro ⟨⟨ae1, ne1, ce1⟩, ⟨az1, nz1, cz1⟩⟩ wb1 ⟨hse, hsz, hb⟩ aa ha; simp only [Act.put, List.setIfInBounds_toArray, List.set_cons_zero, List.set_cons_succ] at ha; subst ha
  have hwb := hb.size
  have HBb1 := Lib.hid (HBz.out.trans (hb.mono HBz.out.size)); have HEb1 : Hid (Sl wb1 1 ae1 ne1 ce1 (bb le.dead)) := Lib.hid hse; have HZb1 : Hid (Sl wb1 1 az1 nz1 cz1 (zc zs)) := Lib.hid hsz
  have hbb1 := hb
  clear hse hsz hb
  refine Lin.take 146 rfl rfl (by go_simp <;> with_reducible rfl) (by simp only [Act.put, List.setIfInBounds_toArray, List.set_cons_zero, List.set_cons_succ] <;> rfl) ?_
  refine Lin.take 150 rfl rfl (by go_simp <;> with_reducible rfl) (by simp only [Act.put, List.setIfInBounds_toArray, List.set_cons_zero, List.set_cons_succ] <;> rfl) ?_
  refine Lin.take 151 rfl rfl (by go_simp <;> with_reducible rfl) (by simp only [Act.put, List.setIfInBounds_toArray, List.set_cons_zero, List.set_cons_succ] <;> rfl) ?_
  refine Lin.take 152 rfl rfl (by go_simp <;> with_reducible rfl) (by simp only [Act.put, List.setIfInBounds_toArray, List.set_cons_zero, List.set_cons_succ] <;> rfl) ?_
  refine Lin.takeW 17 rfl rfl (by go_simp; exact ⟨rfl, rfl⟩) (by simp only [Act.put, List.setIfInBounds_toArray, List.set_cons_zero, List.set_cons_succ] <;> rfl) ?_
  intro wc hwc
  obtain ⟨q1, hq⟩ : ∃ q, q = wb1.heap.size := ⟨_, rfl⟩
  rw [← hq]
  have hrow9 : wc.heap[q1]? = some (.cells (lbz.arrv none 0 0) 32 (0, 0)) := by rw [hwc, hq]; exact heap_alloc_new _ _
  have hb9 : Below wb1.heap.size wb1 wc := by rw [hwc]; exact (Below.refl _ _).alloc (Nat.le_refl _) _
  have HQ := Lib.hid hq
  have hcz : wc.heap.size = q1 + 1 := by rw [hwc, hq]; simp
  clear hwc hq
  refine W_store_row 32 q1 (le.arrv ae1 ne1 ce1) 32 (lbz.arrv none 0 0) rfl rfl hrow9 (by kernel_rfl) rfl (arrv_one _ _ _ _) ?_
  simp only [Act.put]
  obtain ⟨w5, hwd⟩ : ∃ y, y = wc.setRow q1 (le.arrv ae1 ne1 ce1) := ⟨_, rfl⟩
  rw [← hwd]
  have HLw5 : Hid (LbAt le ae1 ne1 ce1 q1 w5) := by rw [hwd]; exact Lib.hid (LbAt.of (setRow_at hrow9))
  have hbd : Below wb1.heap.size wb1 w5 := by rw [hwd]; exact below_setRow hb9 (by have := HQ.out; omega) _
  have HBw5 := Lib.hid (HBb1.out.trans (hbd.mono HBb1.out.size)); have HEw5 := Lib.hid (HEb1.out.below hbd); have HZw5 := Lib.hid (HZb1.out.below hbd); have hqw5 : q1 < w5.heap.size := by (have h9 : w5.heap.size = wc.heap.size := (by rw [hwd]; simp)); omega
  have hbd1 := hbb1.trans (hbd.mono hwb)
  clear hwd hrow9 hb9 hbd hwb hcz hbb1 HEb1 HZb1 HQ
  refine Lin.take 18 rfl rfl (by go_simp <;> with_reducible rfl) (by simp only [Act.put, List.setIfInBounds_toArray, List.set_cons_zero, List.set_cons_succ] <;> rfl) ?_
  refine Lin.take 19 rfl rfl (by go_simp <;> with_reducible rfl) (by simp only [Act.put, List.setIfInBounds_toArray, List.set_cons_zero, List.set_cons_succ] <;> rfl) ?_
  refine Lin.done (hK _ _ ?_)
  clear hK K
  subst her
  have hnz : nd = nz1 := by have h1 := HZw5.out.len; rw [zc_length] at h1; have h2 := HE2.out; omega
  subst hnz
  have HB5z := Lib.hid (HBW.out.trans (hbd1.mono hsz))
  have L5 := Lib.hid (L11.out.below HB5z.out hg11)
  have M5 := Lib.hid (M11.out.below HB5z.out hq11)
  have hg5 : g < w5.heap.size := by have := hbd1.size; omega
  have hq5 : q < w5.heap.size := by have := hbd1.size; omega
  have HDD5 := Lib.hid (HDD11.out.below HB5z.out)
  have HOLD5 := Lib.hid (HOLD11.out.below HB5z.out)
  have hled : le.dead.length ≤ 1000000 := by
    cases hB : intA dn dd nd with
    | true => rw [(equal_fields (HE4.out hB)).2.2.1]; show dd.length ≤ 1000000; have := HDDL.out; omega
    | false => rw [(equal_fields (HE5.out hB)).2.2.1]; have := HNL.out; omega
  have HEQ1 : Hid (Calls Try.prog 15 #[.agg (le.arrv ae1 ne1 ce1).toList.toArray, .agg ((nextL l dd x).arrv (some ⟨A, 0, none⟩) nd c2).toList.toArray] w5 fun e w' => e = .returned (.bool B) ∧ Below w5.heap.size w5 w') := by
    have h12 := refEqual_any le (nextL l dd x) ae1 (some ⟨A, 0, none⟩) ne1 nd ce1 c2 w5 HEw5.out HDD5.out hled
    have h13 : decide (le.equal (nextL l dd x)) = B := by
      rw [HBE.out]
      cases hB : intA dn dd nd with
      | true => exact decide_eq_true (HE4.out hB)
      | false =>
        refine decide_eq_false fun h14 => ?_
        have h15 := (equal_fields (HE5.out hB)).1
        have h16 : le.gen = l.gen + 1 := h14.2.1
        omega
    rw [h13] at h12
    exact Lib.hid h12
  have HEQ2 : Hid (B = false → ∀ z, Below w5.heap.size w5 z → Calls Try.prog 15 #[.agg (le.arrv ae1 ne1 ce1).toList.toArray, .agg (l.arrv ad nd c).toList.toArray] z fun e w' => e = .returned (.bool true) ∧ Below z.heap.size z w') := by
    refine Lib.hid fun hB z hz => ?_
    have h12 := refEqual_any le l ae1 ad ne1 nd ce1 c z (HEw5.out.below hz) (HOLD5.out.below hz) hled
    rw [decide_eq_true (HE5.out (by rw [← HBE.out]; exact hB))] at h12
    exact h12
  refine wp_seq_k (fun K1 hK1 => ?_)
  refine wp_seq_k (fun K hK => ?_)
  refine Lin.begin ?_
  refine Lin.take 153 rfl rfl (by go_simp <;> with_reducible rfl) (by simp only [Act.put, List.setIfInBounds_toArray, List.set_cons_zero, List.set_cons_succ] <;> rfl) ?_
  refine Lin.take 154 (v := .bool false) rfl rfl (by skip; go_simp <;> (first | with_reducible rfl | simp)) (by simp only [Act.put, List.setIfInBounds_toArray, List.set_cons_zero, List.set_cons_succ] <;> rfl) ?_
  refine Lin.bool 155 (x := false) rfl rfl (by go_simp <;> with_reducible rfl) ?_
  intro B155 hB155 aa ha; simp only [Act.put, List.setIfInBounds_toArray, List.set_cons_zero, List.set_cons_succ] at ha; subst ha
  subst hB155
  refine Lin.may 156 true (v := .slice az1 nd cz1) (by kernel_rfl) rfl (by intro hc; (try simp only [gv_true]); go_simp <;> with_reducible rfl) (by simp only [Act.put, List.setIfInBounds_toArray, List.set_cons_zero, List.set_cons_succ] <;> rfl) ?_
  refine Lin.may 157 true (v := .int .i64 (nd : Int)) (by kernel_rfl) rfl (by intro hc; (try simp only [gv_true]); go_simp <;> with_reducible rfl) (by simp only [Act.put, List.setIfInBounds_toArray, List.set_cons_zero, List.set_cons_succ] <;> rfl) ?_
  refine Lin.may 158 true (v := .pointer (some ⟨g, 15, none⟩)) (by kernel_rfl) rfl (by intro hc; (try simp only [gv_true]); go_simp <;> with_reducible rfl) (by simp only [Act.put, List.setIfInBounds_toArray, List.set_cons_zero, List.set_cons_succ] <;> rfl) ?_
  refine Lin.may 159 true (v := .slice ad nd c) (by kernel_rfl) rfl (by intro hc; (try simp only [gv_true]); have hk := L5.out.k15; go_simp <;> with_reducible rfl) (by simp only [Act.put, List.setIfInBounds_toArray, List.set_cons_zero, List.set_cons_succ] <;> rfl) ?_
  refine Lin.may 160 true (v := .int .i64 (nd : Int)) (by kernel_rfl) rfl (by intro hc; (try simp only [gv_true]); go_simp <;> with_reducible rfl) (by simp only [Act.put, List.setIfInBounds_toArray, List.set_cons_zero, List.set_cons_succ] <;> rfl) ?_
  refine Lin.may 161 true (v := .bool false) (by kernel_rfl) rfl (by intro hc; (try simp only [gv_true]); go_simp <;> (first | with_reducible rfl | simp)) (by simp only [Act.put, List.setIfInBounds_toArray, List.set_cons_zero, List.set_cons_succ] <;> rfl) ?_
  refine Lin.take 162 (v := .bool false) rfl rfl (by simp only [gv_true]; go_simp <;> with_reducible rfl) (by simp only [Act.put, List.setIfInBounds_toArray, List.set_cons_zero, List.set_cons_succ] <;> rfl) ?_
  refine Lin.bool 163 (x := false) rfl rfl (by go_simp <;> with_reducible rfl) ?_
  intro B163 hB163 aa ha; simp only [Act.put, List.setIfInBounds_toArray, List.set_cons_zero, List.set_cons_succ] at ha; subst ha
  subst hB163
  refine Lin.may 164 true (v := .bool B) (by kernel_rfl) rfl (by intro hc; (try simp only [gv_true]); go_simp <;> with_reducible rfl) (by simp only [Act.put, List.setIfInBounds_toArray, List.set_cons_zero, List.set_cons_succ] <;> rfl) ?_
  refine Lin.mid 165 true 32 _ q1 0 (le.arrv ae1 ne1 ce1).toList _ (by kernel_rfl) rfl rfl (fun _ => rfl) HLw5.out.range Try.underlying32 rfl (by kernel_rfl) (by simp only [Act.put, List.setIfInBounds_toArray, List.set_cons_zero, List.set_cons_succ] <;> rfl) ?_
  refine Lin.mid 166 true 32 _ q 0 ((nextL l dd x).arrv (some ⟨A, 0, none⟩) nd c2).toList _ (by kernel_rfl) rfl rfl (fun _ => rfl) M5.out.range Try.underlying32 rfl (by kernel_rfl) (by simp only [Act.put, List.setIfInBounds_toArray, List.set_cons_zero, List.set_cons_succ] <;> rfl) ?_
  refine Lin.mayEnter 167 true (v := .bool B) (S := Below w5.heap.size w5) (by kernel_rfl) rfl (by intro hc; simp only [gv_true]; go_simp <;> (first | exact ⟨rfl, rfl⟩ | rfl)) (fun hc => HEQ1.out) (fun _ => Below.refl _ _) (by simp only [Act.put, List.setIfInBounds_toArray, List.set_cons_zero, List.set_cons_succ] <;> rfl) ?_
  intro w6 hb6
  have HB56 := Lib.hid hb6
  have HB6 := Lib.hid (HBw5.out.trans (hb6.mono HBw5.out.size)); have HZ6 := Lib.hid (HZw5.out.below hb6); have L6 := Lib.hid (L5.out.below hb6 hg5); have M6 := Lib.hid (M5.out.below hb6 hq5); have hs6 := hb6.size; have HLE6 := Lib.hid (HLw5.out.below hb6 hqw5)
  clear hb6
  refine Lin.may 168 true (v := .bool false) (by kernel_rfl) rfl (by intro hc; (try simp only [gv_true]); go_simp <;> (first | with_reducible rfl | simp)) (by simp only [Act.put, List.setIfInBounds_toArray, List.set_cons_zero, List.set_cons_succ] <;> rfl) ?_
  refine Lin.take 169 (v := .bool false) rfl rfl (by simp only [gv_true]; go_simp <;> with_reducible rfl) (by simp only [Act.put, List.setIfInBounds_toArray, List.set_cons_zero, List.set_cons_succ] <;> rfl) ?_
  refine Lin.bool 170 (x := false) rfl rfl (by go_simp <;> with_reducible rfl) ?_
  intro B170 hB170 aa ha; simp only [Act.put, List.setIfInBounds_toArray, List.set_cons_zero, List.set_cons_succ] at ha; subst ha
  subst hB170
  refine Lin.may 171 true (v := .bool B) (by kernel_rfl) rfl (by intro hc; (try simp only [gv_true]); go_simp <;> with_reducible rfl) (by simp only [Act.put, List.setIfInBounds_toArray, List.set_cons_zero, List.set_cons_succ] <;> rfl) ?_
  refine Lin.may 172 true (v := .bool (!B)) (by kernel_rfl) rfl (by intro hc; (try simp only [gv_true]); go_simp <;> with_reducible rfl) (by simp only [Act.put, List.setIfInBounds_toArray, List.set_cons_zero, List.set_cons_succ] <;> rfl) ?_
  obtain ⟨N9, hN9⟩ : ∃ N, N = !B := ⟨_, rfl⟩
  refine Lin.may 173 true (v := .bool N9) (by kernel_rfl) rfl (by intro hc; simp only [gv_true]; rw [hN9]; go_simp <;> with_reducible rfl) (by simp only [Act.put, List.setIfInBounds_toArray, List.set_cons_zero, List.set_cons_succ] <;> rfl) ?_
  replace hN9 := Lib.hid hN9
  refine Lin.mid 174 N9 32 _ q1 0 (le.arrv ae1 ne1 ce1).toList _ (by cases N9 <;> kernel_rfl) rfl rfl (fun hc => by (try simp only [hc, gv_true]); rfl) HLE6.out.range Try.underlying32 rfl (by kernel_rfl) (by simp only [Act.put, List.setIfInBounds_toArray, List.set_cons_zero, List.set_cons_succ] <;> rfl) ?_
  refine Lin.mid 175 N9 32 _ g 0 (l.arrv ad nd c).toList _ (by cases N9 <;> kernel_rfl) rfl rfl (fun hc => by (try simp only [hc, gv_true]); rfl) L6.out.range Try.underlying32 rfl (by kernel_rfl) (by simp only [Act.put, List.setIfInBounds_toArray, List.set_cons_zero, List.set_cons_succ] <;> rfl) ?_
  refine Lin.mayEnter 176 N9 (v := .bool true) (S := Below w6.heap.size w6) (by cases N9 <;> kernel_rfl) rfl (by intro hc; (try simp only [hc, gv_true]); go_simp <;> (first | exact ⟨rfl, rfl⟩ | rfl)) (fun hc => HEQ2.out (by rw [hN9.out] at hc; simpa using hc) w6 HB56.out) (fun _ => Below.refl _ _) (by simp only [Act.put, List.setIfInBounds_toArray, List.set_cons_zero, List.set_cons_succ] <;> rfl) ?_
  intro w7 hb7
  have HB7 := Lib.hid (HB6.out.trans (hb7.mono HB6.out.size)); have HZ7 := Lib.hid (HZ6.out.below hb7); have M7 := Lib.hid (M6.out.below hb7 (by omega)); have HB57 := Lib.hid (HB56.out.trans (hb7.mono hs6)); have hs7 := hb7.size
  clear hb7
  refine Lin.may 177 N9 (v := .bool false) (by cases N9 <;> kernel_rfl) rfl (by intro hc; (try simp only [hc, gv_true]); go_simp <;> with_reducible rfl) (by simp only [Act.put, List.setIfInBounds_toArray, List.set_cons_zero, List.set_cons_succ] <;> rfl) ?_
  refine Lin.may 178 true (v := .bool false) (by kernel_rfl) rfl (by intro hc; simp only [gv_true]; cases N9 <;> (simp only [gv_true, gv_false]; go_simp)) (by simp only [Act.put, List.setIfInBounds_toArray, List.set_cons_zero, List.set_cons_succ] <;> rfl) ?_
  refine Lin.take 179 (v := .bool false) rfl rfl (by simp only [gv_true]; go_simp <;> with_reducible rfl) (by simp only [Act.put, List.setIfInBounds_toArray, List.set_cons_zero, List.set_cons_succ] <;> rfl) ?_
  refine Lin.done (hK _ _ ?_)
  refine wp_cond_false rfl ?_
  refine wp_skip ?_
  refine hK1 _ _ ?_
  clear hK1 K1 hK K
  have hcapZ := HZ7.out.cap
  have HDD7 := Lib.hid (HDD5.out.below HB57.out)
  have hq7 : q < w7.heap.size := by omega
  go_wp2
  go_loopw [182] (fun iv wr => ∃ d : Nat, iv = .int .i64 (d : Int) ∧ d ≤ nd ∧ Hid (Below w7.heap.size w7 wr)) (fun iv _ => nd - (intOf iv).toNat)
  case atStart => exact ⟨0, rfl, by omega, Lib.hid (Below.refl _ _)⟩
  case round =>
  obtain ⟨d, rfl, hdn, HBL⟩ := hrel
  by_cases hd : d < nd
  · have hdI : (d : Int) < nd := by omega
    have hd0 : (0 : Int) ≤ (d : Int) := by omega
    have hdz : d < zs.length := by have := HE2.out; omega
    have hdl : d < dd.length := by have := HDDL.out; omega
    obtain ⟨bZ, oZ, haZ, hcellZ⟩ := (HZ7.out.below HBL.out).at (k := d) (by rw [zc_length]; exact hdz)
    have hcZ := hcellZ d (by rw [zc_length]; exact hdz)
    have hcD := ((HDD7.out.below HBL.out).cell _ rfl d ((bb dd)[d]'(by rw [bb_length]; exact hdl)) (by rw [List.getElem?_eq_getElem]))
    rw [Addr.add_lit, Nat.zero_add] at hcD
    simp only [zc, List.getElem_map] at hcZ
    simp only [bb, List.getElem_map] at hcD
    have hz := HE3.out d hdz
    rw [getD_lt hdl] at hz
    have C15 : Hid (∀ z, Below wr.heap.size wr z → z.cell? ⟨q, 15, none⟩ = some (.slice (some ⟨A, 0, none⟩) nd c2)) := Lib.hid fun z hzz => ((M7.out.below HBL.out hq7).below hzz (by have := HBL.out.size; omega)).k15
    have HB := Lib.hid (show Below wr.heap.size wr wr.drew from (Below.refl _ _).drew)
    have hs : wr.heap.size ≤ wr.drew.heap.size := Nat.le_refl _
    obtain ⟨zv, hzv⟩ : ∃ zv, zv = zs[d] := ⟨_, rfl⟩
    obtain ⟨db, hdb⟩ : ∃ db, db = dd[d] := ⟨_, rfl⟩
    rw [← hzv] at hcZ hz
    rw [← hdb] at hcD hz
    subst haZ
    clear hzv hdb hcellZ hdz hdl
    have hor : (zv = -1 ∧ db = true) ∨ (zv = (d : Int) ∧ db = false) := by
      cases db with
      | true => exact .inl ⟨by simpa using hz, rfl⟩
      | false => exact .inr ⟨by simpa using hz, rfl⟩
    clear hz
    rcases hor with ⟨rfl, rfl⟩ | ⟨rfl, rfl⟩
    · have CZ : Hid (∀ z, Below wr.heap.size wr z → z.cell? ⟨bZ, oZ + d, none⟩ = some (.int .i64 (-1))) := Lib.hid fun z hzz => below_cell hzz (World.block_lt_of_cell? wr _ hcZ) hcZ
      have CDD : Hid (∀ z, Below wr.heap.size wr z → z.cell? ⟨A, d, none⟩ = some (.bool true)) := Lib.hid fun z hzz => below_cell hzz (World.block_lt_of_cell? wr _ hcD) hcD
      clear hcZ hcD
      go_wp2
      refine Rest.begin 13 (by kernel_rfl) (by kernel_rfl) ?_
      refine Rest.take 0 185 rfl (by kernel_rfl) (by kernel_rfl) (by kernel_rfl) (fun _ _ _ h => h) (by rfl) (by rfl) (by intro x9 hx; go_simp <;> with_reducible rfl) (by simp only [Act.put, List.setIfInBounds_toArray, List.set_cons_zero, List.set_cons_succ] <;> rfl) ?_
      refine Rest.take 1 186 rfl (by kernel_rfl) (by kernel_rfl) (by kernel_rfl) (fun _ _ _ h => h) (by rfl) (by rfl) (by intro x9 hx; go_simp <;> with_reducible rfl) (by simp only [Act.put, List.setIfInBounds_toArray, List.set_cons_zero, List.set_cons_succ] <;> rfl) ?_
      refine Rest.take 2 187 (v := .pointer (some ⟨bZ, oZ + d, none⟩)) rfl (by kernel_rfl) (by kernel_rfl) (by kernel_rfl) (fun _ _ _ h => h) (by rfl) (by rfl) (by intro x9 hx; have h1 := hdI; have h2 := hd0; have h3 := hcapZ; go_simp <;> with_reducible rfl) (by simp only [Act.put, List.setIfInBounds_toArray, List.set_cons_zero, List.set_cons_succ] <;> rfl) ?_
      refine Rest.take 3 188 rfl (by kernel_rfl) (by kernel_rfl) (by kernel_rfl) (fun _ _ _ h => h) (by rfl) (by rfl) (by intro x9 hx; have hc := CZ.out x9 (later HB hs hx); go_simp <;> with_reducible rfl) (by simp only [Act.put, List.setIfInBounds_toArray, List.set_cons_zero, List.set_cons_succ] <;> rfl) ?_
      refine Rest.take 4 189 rfl (by kernel_rfl) (by kernel_rfl) (by kernel_rfl) (fun _ _ _ h => h) (by rfl) (by rfl) (by intro x9 hx; go_simp <;> with_reducible rfl) (by simp only [Act.put, List.setIfInBounds_toArray, List.set_cons_zero, List.set_cons_succ] <;> rfl) ?_
      refine Rest.take 5 190 (v := .bool false) rfl (by kernel_rfl) (by kernel_rfl) (by kernel_rfl) (fun _ _ _ h => h) (by rfl) (by rfl) (by intro x9 hx; have h1 : ¬ (-1 : Int) = (d : Int) := (by omega); go_simp <;> (first | with_reducible rfl | simp | omega)) (by simp only [Act.put, List.setIfInBounds_toArray, List.set_cons_zero, List.set_cons_succ] <;> rfl) ?_
      refine Rest.take 6 191 rfl (by kernel_rfl) (by kernel_rfl) (by kernel_rfl) (fun _ _ _ h => h) (by rfl) (by rfl) (by intro x9 hx; go_simp <;> with_reducible rfl) (by simp only [Act.put, List.setIfInBounds_toArray, List.set_cons_zero, List.set_cons_succ] <;> rfl) ?_
      refine Rest.take 7 192 (v := .slice (some ⟨A, 0, none⟩) nd c2) rfl (by kernel_rfl) (by kernel_rfl) (by kernel_rfl) (fun _ _ _ h => h) (by rfl) (by rfl) (by intro x9 hx; have hc := C15.out x9 (later HB hs hx); go_simp <;> with_reducible rfl) (by simp only [Act.put, List.setIfInBounds_toArray, List.set_cons_zero, List.set_cons_succ] <;> rfl) ?_
      refine Rest.take 8 193 rfl (by kernel_rfl) (by kernel_rfl) (by kernel_rfl) (fun _ _ _ h => h) (by rfl) (by rfl) (by intro x9 hx; go_simp <;> with_reducible rfl) (by simp only [Act.put, List.setIfInBounds_toArray, List.set_cons_zero, List.set_cons_succ] <;> rfl) ?_
      refine Rest.take 9 194 (v := .pointer (some ⟨A, d, none⟩)) rfl (by kernel_rfl) (by kernel_rfl) (by kernel_rfl) (fun _ _ _ h => h) (by rfl) (by rfl) (by intro x9 hx; have h1 := hdI; have h2 := hd0; have h3 := hcap2; go_simp <;> (first | with_reducible rfl | simp | omega)) (by simp only [Act.put, List.setIfInBounds_toArray, List.set_cons_zero, List.set_cons_succ] <;> rfl) ?_
      refine Rest.take 10 195 (v := .bool true) rfl (by kernel_rfl) (by kernel_rfl) (by kernel_rfl) (fun _ _ _ h => h) (by rfl) (by rfl) (by intro x9 hx; have hc := CDD.out x9 (later HB hs hx); go_simp <;> with_reducible rfl) (by simp only [Act.put, List.setIfInBounds_toArray, List.set_cons_zero, List.set_cons_succ] <;> rfl) ?_
      refine Rest.take 11 196 (v := .bool false) rfl (by kernel_rfl) (by kernel_rfl) (by kernel_rfl) (fun _ _ _ h => h) (by rfl) (by rfl) (by intro x9 hx; go_simp <;> with_reducible rfl) (by simp only [Act.put, List.setIfInBounds_toArray, List.set_cons_zero, List.set_cons_succ] <;> rfl) ?_
      refine Rest.take 12 197 (v := .bool false) rfl (by kernel_rfl) (by kernel_rfl) (by kernel_rfl) (fun _ _ _ h => h) (by rfl) (by rfl) (by intro x9 hx; go_simp <;> (first | with_reducible rfl | simp | omega)) (by simp only [Act.put, List.setIfInBounds_toArray, List.set_cons_zero, List.set_cons_succ] <;> rfl) ?_
      refine Rest.done (by kernel_rfl) ?_
      go_wp2
      go_roundw
      case rel => exact ⟨d + 1, by go_num, by omega, Lib.hid (HBL.out.trans (HB.out.mono HBL.out.size))⟩
      case measure => simp [intOf]; omega
    · have CZ : Hid (∀ z, Below wr.heap.size wr z → z.cell? ⟨bZ, oZ + d, none⟩ = some (.int .i64 (d : Int))) := Lib.hid fun z hzz => below_cell hzz (World.block_lt_of_cell? wr _ hcZ) hcZ
      have CDD : Hid (∀ z, Below wr.heap.size wr z → z.cell? ⟨A, d, none⟩ = some (.bool false)) := Lib.hid fun z hzz => below_cell hzz (World.block_lt_of_cell? wr _ hcD) hcD
      clear hcZ hcD
      go_wp2
      refine Rest.begin 13 (by kernel_rfl) (by kernel_rfl) ?_
      refine Rest.take 0 185 rfl (by kernel_rfl) (by kernel_rfl) (by kernel_rfl) (fun _ _ _ h => h) (by rfl) (by rfl) (by intro x9 hx; go_simp <;> with_reducible rfl) (by simp only [Act.put, List.setIfInBounds_toArray, List.set_cons_zero, List.set_cons_succ] <;> rfl) ?_
      refine Rest.take 1 186 rfl (by kernel_rfl) (by kernel_rfl) (by kernel_rfl) (fun _ _ _ h => h) (by rfl) (by rfl) (by intro x9 hx; go_simp <;> with_reducible rfl) (by simp only [Act.put, List.setIfInBounds_toArray, List.set_cons_zero, List.set_cons_succ] <;> rfl) ?_
      refine Rest.take 2 187 (v := .pointer (some ⟨bZ, oZ + d, none⟩)) rfl (by kernel_rfl) (by kernel_rfl) (by kernel_rfl) (fun _ _ _ h => h) (by rfl) (by rfl) (by intro x9 hx; have h1 := hdI; have h2 := hd0; have h3 := hcapZ; go_simp <;> with_reducible rfl) (by simp only [Act.put, List.setIfInBounds_toArray, List.set_cons_zero, List.set_cons_succ] <;> rfl) ?_
      refine Rest.take 3 188 rfl (by kernel_rfl) (by kernel_rfl) (by kernel_rfl) (fun _ _ _ h => h) (by rfl) (by rfl) (by intro x9 hx; have hc := CZ.out x9 (later HB hs hx); go_simp <;> with_reducible rfl) (by simp only [Act.put, List.setIfInBounds_toArray, List.set_cons_zero, List.set_cons_succ] <;> rfl) ?_
      refine Rest.take 4 189 rfl (by kernel_rfl) (by kernel_rfl) (by kernel_rfl) (fun _ _ _ h => h) (by rfl) (by rfl) (by intro x9 hx; go_simp <;> with_reducible rfl) (by simp only [Act.put, List.setIfInBounds_toArray, List.set_cons_zero, List.set_cons_succ] <;> rfl) ?_
      refine Rest.take 5 190 (v := .bool true) rfl (by kernel_rfl) (by kernel_rfl) (by kernel_rfl) (fun _ _ _ h => h) (by rfl) (by rfl) (by intro x9 hx; skip; go_simp <;> (first | with_reducible rfl | simp | omega)) (by simp only [Act.put, List.setIfInBounds_toArray, List.set_cons_zero, List.set_cons_succ] <;> rfl) ?_
      refine Rest.take 6 191 rfl (by kernel_rfl) (by kernel_rfl) (by kernel_rfl) (fun _ _ _ h => h) (by rfl) (by rfl) (by intro x9 hx; go_simp <;> with_reducible rfl) (by simp only [Act.put, List.setIfInBounds_toArray, List.set_cons_zero, List.set_cons_succ] <;> rfl) ?_
      refine Rest.take 7 192 (v := .slice (some ⟨A, 0, none⟩) nd c2) rfl (by kernel_rfl) (by kernel_rfl) (by kernel_rfl) (fun _ _ _ h => h) (by rfl) (by rfl) (by intro x9 hx; have hc := C15.out x9 (later HB hs hx); go_simp <;> with_reducible rfl) (by simp only [Act.put, List.setIfInBounds_toArray, List.set_cons_zero, List.set_cons_succ] <;> rfl) ?_
      refine Rest.take 8 193 rfl (by kernel_rfl) (by kernel_rfl) (by kernel_rfl) (fun _ _ _ h => h) (by rfl) (by rfl) (by intro x9 hx; go_simp <;> with_reducible rfl) (by simp only [Act.put, List.setIfInBounds_toArray, List.set_cons_zero, List.set_cons_succ] <;> rfl) ?_
      refine Rest.take 9 194 (v := .pointer (some ⟨A, d, none⟩)) rfl (by kernel_rfl) (by kernel_rfl) (by kernel_rfl) (fun _ _ _ h => h) (by rfl) (by rfl) (by intro x9 hx; have h1 := hdI; have h2 := hd0; have h3 := hcap2; go_simp <;> (first | with_reducible rfl | simp | omega)) (by simp only [Act.put, List.setIfInBounds_toArray, List.set_cons_zero, List.set_cons_succ] <;> rfl) ?_
      refine Rest.take 10 195 (v := .bool false) rfl (by kernel_rfl) (by kernel_rfl) (by kernel_rfl) (fun _ _ _ h => h) (by rfl) (by rfl) (by intro x9 hx; have hc := CDD.out x9 (later HB hs hx); go_simp <;> with_reducible rfl) (by simp only [Act.put, List.setIfInBounds_toArray, List.set_cons_zero, List.set_cons_succ] <;> rfl) ?_
      refine Rest.take 11 196 (v := .bool true) rfl (by kernel_rfl) (by kernel_rfl) (by kernel_rfl) (fun _ _ _ h => h) (by rfl) (by rfl) (by intro x9 hx; go_simp <;> with_reducible rfl) (by simp only [Act.put, List.setIfInBounds_toArray, List.set_cons_zero, List.set_cons_succ] <;> rfl) ?_
      refine Rest.take 12 197 (v := .bool false) rfl (by kernel_rfl) (by kernel_rfl) (by kernel_rfl) (fun _ _ _ h => h) (by rfl) (by rfl) (by intro x9 hx; go_simp <;> (first | with_reducible rfl | simp | omega)) (by simp only [Act.put, List.setIfInBounds_toArray, List.set_cons_zero, List.set_cons_succ] <;> rfl) ?_
      refine Rest.done (by kernel_rfl) ?_
      go_wp2
      go_roundw
      case rel => exact ⟨d + 1, by go_num, by omega, Lib.hid (HBL.out.trans (HB.out.mono HBL.out.size))⟩
      case measure => simp [intOf]; omega
  · have hdI : ¬ (d : Int) < nd := by omega
    obtain rfl : nd = d := by omega
    go_wp2
    go_ret
    exact ⟨rfl, HB7.out.trans (HBL.out.mono HB7.out.size)⟩

end Go.Proofs.Ytgpfjinkmagelaa
