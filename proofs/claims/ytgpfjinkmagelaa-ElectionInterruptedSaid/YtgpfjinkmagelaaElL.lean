/- Elections: the laws' example; large; the reference's Same. (Printed by el11.py.) -/
import Derived.Test.YtgpfjinkmagelaaElJ
import Derived.Great.BuildSlice
set_option linter.unusedVariables false
set_option linter.unusedSimpArgs false
namespace Go.Proofs.Ytgpfjinkmagelaa
open Go Go.RowKit Go.Lib

theorem info_boolE : (Try.prog.info? 4).map (fun i => (i.zero, i.size, i.bytes)) = some (some (.bool false), 1, 1) := by kernel_rfl
theorem wp_makeT {o : Oper} {a : Act} {K : Act → World → Prop} {Q : Exit → Act → World → Prop} {l c : Operand} {n : Nat} (w : World) (hop : o.op = Op.makeSlice 23 l c) (hl : a.eval l = .int .i64 (n : Int)) (hc : a.eval c = .int .i64 (n : Int)) (hn : n ≤ 1000)
    (h : ∀ w', w'.ownsRow w.heap.size 4 1 (.slice (some ⟨w.heap.size, 0, none⟩) n n) n (bb (List.replicate n false)) → w.grownBy w' none → K (a.put o.dst (.slice (some ⟨w.heap.size, 0, none⟩) n n)) w') : o.wp Try.prog a w K Q := by
  obtain ⟨i0, hi, hz0, hz1, hz2⟩ := info_parts info_boolE
  obtain ⟨w', hrun, r1, r2⟩ := run_make_full (P := Try.prog) w w.heap.size 23 4 i0 (.bool false) 1 Try.underlying23 hi hz0 hz1 .i64 .i64 n (by rw [hz2]; omega) (by unfold maxLen; omega) (Nat.le_refl _)
  have hz : (madeCells (Value.bool false).cells (n * 1)).toList = bb (List.replicate n false) := by
    rw [show (Value.bool false).cells = #[.bool false] from rfl, toList_madeCells_one, Nat.mul_one]
    simp [bb]
  rw [hz] at r1
  unfold Oper.wp
  simp [execOp, hop, hl, hc, hrun, Result.andThen]
  exact h w' r1 r2

theorem results_row1' {P : Program} {fn : Func} {p : Tmp} {ty : TypeId} (h : fn.results = #[.cell p ty]) (tmps : Array Value) (w : World) (g : Nat) (t : TypeId) (cs : Array Value) (d : TypeDesc)
    (hp : tmps.getD p undef = .pointer (some ⟨g, 0, none⟩)) (hg : w.heap[g]? = some (.cells cs t (0, 0)))
    (hu : P.underlying ty = some d) (hd : (match d with | .struct _ | .array _ _ => true | _ => false) = true) (hi : (P.info? ty).map (·.size) = some cs.size) :
    (results fn tmps).run P w = .ok (.agg cs) w := by
  have hp' : tmps[p]?.getD undef = .pointer (some ⟨g, 0, none⟩) := by simpa using hp
  simp [results, h, hp', asAddr, run_loadVar_row w g t ty cs (0, 0) d hg hu hd hi]
/-- A label of the example. -/
def exl (dk gen : Int) : Lb := ⟨1, dk, gen, gen - 1, 5, 4, 1, 0, 60, 4, 2, 3, 1, 10, 20, [false, false, false, false, false], 0, 0, 0⟩

set_option maxRecDepth 100000 in
set_option maxHeartbeats 1600000 in
theorem exlab_any (dk gen : Int) (w : World) (hd0 : -9223372036854775808 ≤ dk) (hd1 : dk ≤ 9223372036854775807) (hg0 : 1 ≤ gen) (hg1 : gen < 18446744073709551616) :
    Calls Try.prog 21 #[.int .i64 dk, .int .u64 gen] w fun e w' => ∃ r : Option Addr × Nat × Nat, e = .returned (.agg ((exl dk gen).arrv r.1 r.2.1 r.2.2)) ∧ Sl w' 1 r.1 r.2.1 r.2.2 (bb (exl dk gen).dead) ∧ Below w.heap.size w w' := by
  go_enter Try.func21, Try.ntmps21
  refine wp_seq_k (fun K hK => ?_)
  refine Lin.begin ?_
  refine Lin.takeW 4 rfl rfl (by go_simp; exact ⟨rfl, rfl⟩) (by simp only [Act.put, List.setIfInBounds_toArray, List.set_cons_zero, List.set_cons_succ] <;> rfl) ?_
  intro w1 hw1
  obtain ⟨g, hg⟩ : ∃ g, g = w.heap.size := ⟨_, rfl⟩
  rw [← hg]
  have HR1 : Hid (w1.heap[g]? = some (.cells (lbz.arrv none 0 0) 32 (0, 0))) := by rw [hw1, hg]; exact Lib.hid (heap_alloc_new _ _)
  have HB1 : Hid (Below w.heap.size w w1) := by rw [hw1]; exact Lib.hid ((Below.refl _ _).alloc (Nat.le_refl _) _)
  have HS1 : Hid (w1.heap.size = g + 1) := by rw [hw1, hg]; exact Lib.hid (by simp)
  have HG := Lib.hid hg
  clear hw1 hg
  refine Lin.done (hK _ _ ?_)
  clear hK K
  refine wp_seq_k (fun K hK => ?_)
  refine Lin.begin ?_
  refine Lin.take 6 rfl rfl (by go_simp <;> with_reducible rfl) (by simp only [Act.put, List.setIfInBounds_toArray, List.set_cons_zero, List.set_cons_succ] <;> rfl) ?_
  refine Lin.take 7 rfl rfl (by go_simp <;> with_reducible rfl) (by simp only [Act.put, List.setIfInBounds_toArray, List.set_cons_zero, List.set_cons_succ] <;> rfl) ?_
  refine Lin.takeW 5 rfl rfl (by go_simp; exact ⟨rfl, rfl⟩) (by simp only [Act.put, List.setIfInBounds_toArray, List.set_cons_zero, List.set_cons_succ] <;> rfl) ?_
  intro w2 hw2
  obtain ⟨g2, hg2⟩ : ∃ g2, g2 = w1.heap.size := ⟨_, rfl⟩
  rw [← hg2]
  have hrow2 : w2.heap[g2]? = some (.cells #[.int .i64 0, .int .i64 0, .int .i64 0, .int .i64 0, .int .i64 0, .int .i64 0, .int .i64 0, .int .i64 0, .int .i64 0, .int .i64 0, .int .i64 0] 30 (0, 0)) := by rw [hw2, hg2]; exact heap_alloc_new _ _
  have hb2 : Below w1.heap.size w1 w2 := by rw [hw2]; exact (Below.refl _ _).alloc (Nat.le_refl _) _
  have HS2 : Hid (w2.heap.size = g2 + 1) := by rw [hw2, hg2]; exact Lib.hid (by simp)
  have HG2 := Lib.hid hg2
  clear hw2 hg2
  refine W_store_row 30 g2 #[.int .i64 5, .int .i64 4, .int .i64 1, .int .i64 0, .int .i64 60, .int .i64 4, .int .i64 2, .int .i64 3, .int .i64 1, .int .i64 10, .int .i64 20] 30 #[.int .i64 0, .int .i64 0, .int .i64 0, .int .i64 0, .int .i64 0, .int .i64 0, .int .i64 0, .int .i64 0, .int .i64 0, .int .i64 0, .int .i64 0] rfl rfl hrow2 (by kernel_rfl) rfl (by simp [Value.oneCell']) ?_
  simp only [Act.put]
  obtain ⟨w3, hw3⟩ : ∃ y, y = w2.setRow g2 #[.int .i64 5, .int .i64 4, .int .i64 1, .int .i64 0, .int .i64 60, .int .i64 4, .int .i64 2, .int .i64 3, .int .i64 1, .int .i64 10, .int .i64 20] := ⟨_, rfl⟩
  rw [← hw3]
  have hrow3 : w3.heap[g2]? = some (.cells #[.int .i64 5, .int .i64 4, .int .i64 1, .int .i64 0, .int .i64 60, .int .i64 4, .int .i64 2, .int .i64 3, .int .i64 1, .int .i64 10, .int .i64 20] 30 (0, 0)) := by rw [hw3]; exact setRow_at hrow2
  have HC3 : Hid (w3.rangeAt g2 0 (#[.int .i64 5, .int .i64 4, .int .i64 1, .int .i64 0, .int .i64 60, .int .i64 4, .int .i64 2, .int .i64 3, .int .i64 1, .int .i64 10, .int .i64 20] : Array Value).toList) := by refine Lib.hid (fun j v hv => ?_); rw [Nat.zero_add, cell_of_row _ _ _ _ _ _ hrow3]; simpa using hv
  have HB3 : Hid (Below w1.heap.size w1 w3) := by rw [hw3]; exact Lib.hid (below_setRow hb2 (by have := HG2.out; omega) _)
  have HS3 : Hid (w3.heap.size = g2 + 1) := by rw [hw3]; have := HS2.out; exact Lib.hid (by simpa using this)
  have hg3 : g2 < w3.heap.size := by have := HS3.out; omega
  clear hw3 hrow2 hrow3 hb2
  refine Lin.done (hK _ _ ?_)
  clear hK K
  refine wp_seq_k (fun K hK => ?_)
  have hKK := Lib.hid hK
  clear hK
  have hSw : w3.drew.rangeAt g2 0 (#[.int .i64 5, .int .i64 4, .int .i64 1, .int .i64 0, .int .i64 60, .int .i64 4, .int .i64 2, .int .i64 3, .int .i64 1, .int .i64 10, .int .i64 20] : Array Value).toList := HC3.out
  refine RestS.begin (fun x => x.rangeAt g2 0 (#[.int .i64 5, .int .i64 4, .int .i64 1, .int .i64 0, .int .i64 60, .int .i64 4, .int .i64 2, .int .i64 3, .int .i64 1, .int .i64 10, .int .i64 20] : Array Value).toList) 8 (by kernel_rfl) (by kernel_rfl) ?_
  refine RestS.take 0 8 rfl (by kernel_rfl) (by kernel_rfl) (by kernel_rfl) (fun _ _ _ h => h) (by rfl) (by rfl) (by intro x hx; go_simp <;> with_reducible rfl) (by simp only [Act.put, List.setIfInBounds_toArray, List.set_cons_zero, List.set_cons_succ] <;> rfl) hSw ?_
  refine RestS.take 1 9 rfl (by kernel_rfl) (by kernel_rfl) (by kernel_rfl) (fun _ _ _ h => h) (by rfl) (by rfl) (by intro x hx; go_simp <;> with_reducible rfl) (by simp only [Act.put, List.setIfInBounds_toArray, List.set_cons_zero, List.set_cons_succ] <;> rfl) hSw ?_
  refine RestS.take 2 10 rfl (by kernel_rfl) (by kernel_rfl) (by kernel_rfl) (fun _ _ _ h => h) (by rfl) (by rfl) (by intro x hx; go_simp <;> with_reducible rfl) (by simp only [Act.put, List.setIfInBounds_toArray, List.set_cons_zero, List.set_cons_succ] <;> rfl) hSw ?_
  refine RestS.take 3 11 (v := .int .u64 (gen - 1)) rfl (by kernel_rfl) (by kernel_rfl) (by kernel_rfl) (fun _ _ _ h => h) (by rfl) (by rfl) (by intro x hx; have h1 : IntKind.u64.wrap (gen - 1) = gen - 1 := (by simp [IntKind.wrap, IntKind.bits, IntKind.signed]; omega); go_simp <;> (first | with_reducible rfl | (congr 2; omega))) (by simp only [Act.put, List.setIfInBounds_toArray, List.set_cons_zero, List.set_cons_succ] <;> rfl) hSw ?_
  refine RestS.takeMid 4 12 rfl (by kernel_rfl) (by kernel_rfl) (by kernel_rfl) 30 _ g2 0 (#[.int .i64 5, .int .i64 4, .int .i64 1, .int .i64 0, .int .i64 60, .int .i64 4, .int .i64 2, .int .i64 3, .int .i64 1, .int .i64 10, .int .i64 20] : Array Value).toList _ (fun _ _ _ h => h) (by rfl) rfl rfl (fun x hx => hx) Try.underlying30 rfl (by kernel_rfl) rfl (by simp only [Act.put, List.setIfInBounds_toArray, List.set_cons_zero, List.set_cons_succ] <;> rfl) hSw ?_
  refine RestS.step 5 rfl (by kernel_rfl) (by rfl) (fun K hK => ?_)
  refine wp_makeT (n := 5) w3.drew rfl rfl rfl (by omega) ?_
  intro wy hoy hgy
  simp only [Act.put, List.setIfInBounds_toArray, List.set_cons_zero, List.set_cons_succ] 
  have hby : Below w3.drew.heap.size w3.drew wy := (Below.refl _ _).grown hgy (Nat.le_refl _) (by simp)
  have hSy : wy.rangeAt g2 0 (#[.int .i64 5, .int .i64 4, .int .i64 1, .int .i64 0, .int .i64 60, .int .i64 4, .int .i64 2, .int .i64 3, .int .i64 1, .int .i64 10, .int .i64 20] : Array Value).toList := rangeAt_below hSw hby hg3
  refine hK.out _ _ hSy ?_
  clear hK K
  have HO := Lib.hid hoy
  have HBY := Lib.hid (HB3.out.trans ((show Below w3.heap.size w3 wy from (Below.refl _ _).drew.trans hby).mono HB3.out.size))
  clear hSw
  have hSw := hSy
  clear hoy hgy hby hSy
  refine RestS.take 6 14 rfl (by kernel_rfl) (by kernel_rfl) (by kernel_rfl) (fun _ _ _ h => h) (by rfl) (by rfl) (by intro x hx; go_simp <;> with_reducible rfl) (by simp only [Act.put, List.setIfInBounds_toArray, List.set_cons_zero, List.set_cons_succ] <;> rfl) hSw ?_
  refine RestS.step 7 rfl (by kernel_rfl) (by rfl) (fun K hK => ?_)
  have HR7 : Hid (wy.heap[g]? = some (.cells (lbz.arrv none 0 0) 32 (0, 0))) := by rw [← HR1.out]; exact Lib.hid (HBY.out.block g (by have := HS1.out; omega))
  refine wp_store_row 32 (.tmp 4) (.tmp 14) rfl g ((exl dk gen).arrv (some ⟨w3.drew.heap.size, 0, none⟩) 5 5) rfl rfl 32 (lbz.arrv none 0 0) HR7.out (by kernel_rfl) rfl (arrv_one _ _ _ _) ?_
  refine hK.out _ _ (fun j v hv => ?_) ?_
  · have := hSw j v hv
    rw [Nat.zero_add] at this ⊢
    exact (World.cell?_of_block (setRow_other wy g g2 _ (by have h1 := HS1.out; have h2 := HG2.out; omega))).trans this
  clear hK K
  refine wpAnyH_done (by kernel_rfl) ?_ _
  refine hKK.out _ _ ?_
  refine wp_ret ?_
  (try simp only [Exit.then])
  refine bodyPost_ret (results_row1' rfl _ _ g 32 ((exl dk gen).arrv (some ⟨w3.drew.heap.size, 0, none⟩) 5 5) _ rfl (setRow_at HR7.out) Try.underlying32 rfl (by kernel_rfl)) rfl ?_
  refine ⟨(some ⟨w3.drew.heap.size, 0, none⟩, 5, 5), rfl, ?_, below_setRow (HB1.out.trans (HBY.out.mono HB1.out.size)) (by have := HG.out; omega) _⟩
  refine (Sl.of_owns (World.ownsRow.kept HO.out (grownBy_setRow _ g _) (.inr ?_)) (bb_one _)).2
  intro h
  simp [Value.ownBlock] at h
  have h1 := HS1.out
  have h2 := HB3.out.size
  have h3 : w3.drew.heap.size = w3.heap.size := rfl
  omega

set_option maxRecDepth 100000 in
set_option maxHeartbeats 800000 in
theorem large_any (xs : List LL) (a : Option Addr) (n c : Nat) (w : World) (hX : Lbs w a n c xs) (hn : n ≤ 9223372036854775807) (hd : ∀ x ∈ xs, x.nd ≤ 9223372036854775807) :
    Calls Try.prog 10 #[.slice a n c] w fun e w' => e = .returned (.bool (decide (70 < n) || xs.any fun x => decide (100 < x.nd))) ∧ Below w.heap.size w w' := by
  have hlen := hX.len
  have hcapL := hX.sl.cap
  have HX := Lib.hid hX
  have HL := Lib.hid hlen
  have HD := Lib.hid hd
  clear hX hlen hd
  go_enter Try.func10, Try.ntmps10
  go_wp2
  go_loopw [6] (fun iv wr => ∃ i : Nat, iv = .int .i64 (i : Int) ∧ i ≤ n ∧ Hid ((xs.take i).any (fun x => decide (100 < x.nd)) = false) ∧ Hid (Below w.heap.size w wr)) (fun iv _ => n - (intOf iv).toNat)
  case atStart => exact ⟨0, rfl, by omega, Lib.hid rfl, Lib.hid (Below.refl _ _)⟩
  case round =>
  obtain ⟨i, rfl, hin, HA, HBW⟩ := hrel
  by_cases hi : i < n
  · have hiI : (i : Int) < n := by omega
    have hi0 : (0 : Int) ≤ (i : Int) := by omega
    have hil : i < xs.length := by have := HL.out; omega
    obtain ⟨bL, oL, haL, hbL, r0⟩ := (HX.out.below HBW.out).at hil
    have hnx := HD.out _ (List.getElem_mem hil)
    have hany : (xs.take (i + 1)).any (fun x => decide (100 < x.nd)) = decide (100 < xs[i].nd) := by
      rw [List.take_succ_eq_append_getElem hil, List.any_append, HA.out]
      simp
    have hall : decide (100 < xs[i].nd) = true → xs.any (fun x => decide (100 < x.nd)) = true := fun h => List.any_eq_true.2 ⟨_, List.getElem_mem hil, h⟩
    have hc : wr.cell? ⟨bL, oL + i * 19 + 15, none⟩ = some (.slice xs[i].ad xs[i].nd xs[i].c) := r0 15 _ rfl
    obtain ⟨nx, hnxe⟩ : ∃ nx, nx = xs[i].nd := ⟨_, rfl⟩
    rw [← hnxe] at hc hnx hany hall
    have HAN := Lib.hid hany
    have HAL := Lib.hid hall
    subst haL
    clear hnxe hany hall r0
    by_cases h9 : 100 < nx
    · have h9I : (nx : Int) > 100 := by omega
      go_wp2
      go_ret
      rw [HAL.out (by simpa using h9)]
      exact ⟨by simp, HBW.out⟩
    · have h9I : ¬ (nx : Int) > 100 := by omega
      go_wp2
      go_roundw
      case rel => exact ⟨i + 1, by go_num, by omega, Lib.hid (by rw [HAN.out]; simpa using h9), HBW⟩
      case measure => simp [intOf]; omega
  · have hiI : ¬ (i : Int) < n := by omega
    obtain rfl : n = i := by omega
    have hA := HA.out
    rw [List.take_of_length_le (by have := HL.out; omega)] at hA
    have HA2 := Lib.hid hA
    clear hA
    go_wp2
    go_ret
    rw [HA2.out]
    refine ⟨ret_bool ?_, HBW.out⟩
    rw [Bool.eq_iff_iff]
    simp
    omega

set_option maxRecDepth 100000 in
set_option maxHeartbeats 800000 in
theorem sameL_any (x : Lb) (ad : Option Addr) (nd cx : Nat) (y : Lb) (ay : Option Addr) (ny cy : Nat) (w : World) (hx : Sl w 1 ad nd cx (bb x.dead)) (hy : Sl w 1 ay ny cy (bb y.dead)) (hxs : x.dead.length ≤ 1000000) :
    Calls Try.prog 13 #[.agg (x.arrv ad nd cx), .agg (y.arrv ay ny cy)] w fun e w' => e = .returned (.bool (decide (x.dk = y.dk) && decide (x.equal y))) ∧ Below w.heap.size w w' := by
  obtain ⟨M, hM⟩ : ∃ M, M = decide (x.equal y) := ⟨_, rfl⟩
  rw [← hM]
  have HM := Lib.hid hM
  clear hM
  unfold Lb.arrv
  go_enter Try.func13, Try.ntmps13
  refine wp_seq_k (fun K hK => ?_)
  refine Lin.begin ?_
  refine Lin.takeW 2 rfl rfl (by go_simp; exact ⟨rfl, rfl⟩) (by simp only [Act.put, List.setIfInBounds_toArray, List.set_cons_zero, List.set_cons_succ] <;> rfl) ?_
  intro w1 hw1
  obtain ⟨g, hg⟩ : ∃ g, g = w.heap.size := ⟨_, rfl⟩
  rw [← hg]
  have L1 : LbAt x ad nd cx g w1 := by rw [hw1, hg]; exact LbAt.new x ad nd cx 32 w
  have hb1 : Below w.heap.size w w1 := by rw [hw1]; exact (Below.refl _ _).alloc (Nat.le_refl _) _
  have HS1 : Hid (w1.heap.size = g + 1) := by rw [hw1, hg]; exact Lib.hid (by simp)
  have HG := Lib.hid hg
  clear hw1 hg
  refine Lin.takeW 3 rfl rfl (by go_simp; exact ⟨rfl, rfl⟩) (by simp only [Act.put, List.setIfInBounds_toArray, List.set_cons_zero, List.set_cons_succ] <;> rfl) ?_
  intro w2 hw2
  obtain ⟨g2, hg2⟩ : ∃ g2, g2 = w1.heap.size := ⟨_, rfl⟩
  rw [← hg2]
  have hb2 : Below w1.heap.size w1 w2 := by rw [hw2]; exact (Below.refl _ _).alloc (Nat.le_refl _) _
  have HM2 : Hid (LbAt y ay ny cy g2 w2) := by rw [hw2, hg2]; exact Lib.hid (LbAt.new y ay ny cy 32 w1)
  have HL2 := Lib.hid (L1.below hb2 (by have := HS1.out; omega))
  have HBB := Lib.hid (hb1.trans (hb2.mono hb1.size))
  have HDX := Lib.hid (hx.below HBB.out)
  have HDY := Lib.hid (hy.below HBB.out)
  clear hw2 hg2 hb1 hb2 hx hy L1
  refine Lin.take 4 rfl rfl (by go_simp <;> with_reducible rfl) (by simp only [Act.put, List.setIfInBounds_toArray, List.set_cons_zero, List.set_cons_succ] <;> rfl) ?_
  refine Lin.done (hK _ _ ?_)
  clear hK K
  have HME : Hid (Calls Try.prog 15 #[.agg (x.arrv ad nd cx).toList.toArray, .agg (y.arrv ay ny cy).toList.toArray] w2 fun e w' => e = .returned (.bool M) ∧ Below w2.heap.size w2 w') := by
    rw [HM.out]
    exact Lib.hid (refEqual_any x y ad ay nd ny cx cy w2 HDX.out HDY.out hxs)
  refine wp_seq_k (fun K hK => ?_)
  refine Lin.begin ?_
  refine Lin.take 5 rfl rfl (by go_simp <;> with_reducible rfl) (by simp only [Act.put, List.setIfInBounds_toArray, List.set_cons_zero, List.set_cons_succ] <;> rfl) ?_
  refine Lin.take 6 rfl rfl (by obtain ⟨k0, k1, k2, k3, k4, k5, k6, k7, k8, k9, k10, k11, k12, k13, k14, k15, k16, k17, k18⟩ := HL2.out; go_simp <;> with_reducible rfl) (by simp only [Act.put, List.setIfInBounds_toArray, List.set_cons_zero, List.set_cons_succ] <;> rfl) ?_
  refine Lin.take 7 rfl rfl (by go_simp <;> with_reducible rfl) (by simp only [Act.put, List.setIfInBounds_toArray, List.set_cons_zero, List.set_cons_succ] <;> rfl) ?_
  refine Lin.take 8 rfl rfl (by obtain ⟨k0, k1, k2, k3, k4, k5, k6, k7, k8, k9, k10, k11, k12, k13, k14, k15, k16, k17, k18⟩ := HM2.out; go_simp <;> with_reducible rfl) (by simp only [Act.put, List.setIfInBounds_toArray, List.set_cons_zero, List.set_cons_succ] <;> rfl) ?_
  refine Lin.take 9 rfl rfl (by go_simp <;> with_reducible rfl) (by simp only [Act.put, List.setIfInBounds_toArray, List.set_cons_zero, List.set_cons_succ] <;> rfl) ?_
  refine Lin.bool 10 (x := decide (x.dk = y.dk)) rfl rfl (by go_simp <;> rfl) ?_
  intro B10 hB10 aa ha; simp only [Act.put, List.setIfInBounds_toArray, List.set_cons_zero, List.set_cons_succ] at ha; subst ha; replace hB10 := Lib.hid hB10
  refine Lin.mid 11 B10 32 _ g 0 (x.arrv ad nd cx).toList _ (by cases B10 <;> kernel_rfl) rfl rfl (fun hc => by (try simp only [hc, gv_true]); rfl) HL2.out.range Try.underlying32 rfl (by kernel_rfl) (by simp only [Act.put, List.setIfInBounds_toArray, List.set_cons_zero, List.set_cons_succ] <;> rfl) ?_
  refine Lin.mid 12 B10 32 _ g2 0 (y.arrv ay ny cy).toList _ (by cases B10 <;> kernel_rfl) rfl rfl (fun hc => by (try simp only [hc, gv_true]); rfl) HM2.out.range Try.underlying32 rfl (by kernel_rfl) (by simp only [Act.put, List.setIfInBounds_toArray, List.set_cons_zero, List.set_cons_succ] <;> rfl) ?_
  refine Lin.mayEnter 13 B10 (v := .bool M) (S := Below w2.heap.size w2) (by cases B10 <;> kernel_rfl) rfl (by intro hc; (try simp only [hc, gv_true]); go_simp <;> (first | exact ⟨rfl, rfl⟩ | rfl)) (fun hc => HME.out) (fun _ => Below.refl _ _) (by simp only [Act.put, List.setIfInBounds_toArray, List.set_cons_zero, List.set_cons_succ] <;> rfl) ?_
  intro w3 hb3
  have HB3 := Lib.hid (HBB.out.trans (hb3.mono HBB.out.size))
  clear hb3
  refine Lin.and 14 10 13 rfl rfl rfl rfl rfl ?_
  intro B14 hB14 aa ha; simp only [Act.put, List.setIfInBounds_toArray, List.set_cons_zero, List.set_cons_succ] at ha; subst ha; replace hB14 := Lib.hid hB14
  refine Lin.take 4 rfl rfl (by go_simp <;> with_reducible rfl) (by simp only [Act.put, List.setIfInBounds_toArray, List.set_cons_zero, List.set_cons_succ] <;> rfl) ?_
  refine Lin.done (hK _ _ ?_)
  refine wp_ret ?_
  (try simp only [Exit.then])
  refine bodyPost_ret (results_tmp rfl _ _ _) rfl ?_
  refine ⟨?_, HB3.out⟩
  rw [← hB10.out, ← hB14.out]
  rfl

/-- The labels that a slice literal holds. -/
theorem Lbs.made (w : World) (xs : List LL) (n : Nat) (T : TypeId) (hn : xs.length = n) (hm : n ≤ maxLen) (hd : ∀ x ∈ xs, Sl w 1 x.ad x.nd x.c (bb x.l.dead)) : Lbs (w.alloc (.cells (lcs xs).toArray T)) (some ⟨w.heap.size, 0, none⟩) n n xs := by
  refine ⟨?_, fun x hx => (hd x hx).below ((Below.refl _ _).alloc (Nat.le_refl _) _)⟩
  refine (Sl.of_owns (World.ownsRow_lit (base := 0) (e := T) (size := 19) w (lcs xs).toArray n (Nat.zero_le _) hm (by simp [lcs_length, hn])) ?_).2
  intro u hu
  obtain ⟨x, hx, hu⟩ := List.mem_flatMap.1 hu
  exact x.arr_one u hu
theorem info_two {P : Program} {e : TypeId} {z : Option Value} {n : Nat} (h : (P.info? e).map (fun i => (i.zero, i.size)) = some (z, n)) : ∃ i, P.info? e = some i ∧ i.zero = z ∧ i.size = n := by
  cases hi : P.info? e with
  | none => rw [hi] at h; simp at h
  | some i => rw [hi] at h; simp at h; exact ⟨i, rfl, h.1, h.2⟩
theorem info_labelE : (Try.prog.info? 32).map (fun i => (i.zero, i.size)) = some (some (.agg (lbz.arrv none 0 0)), 19) := by kernel_rfl
theorem exl_ok {dk gen : Int} (h0 : -9223372036854775808 ≤ dk) (h1 : dk ≤ 9223372036854775807) (h2 : 1 ≤ gen) (h3 : gen < 18446744073709551616) : (exl dk gen).ok := by
  constructor <;> simp [exl] <;> omega

set_option maxRecDepth 100000 in
set_option maxHeartbeats 1600000 in
theorem awake31_any (w : World) : Calls Try.prog 9 #[] w fun e w' => e = .returned (.bool true) ∧ Below w.heap.size w w' := by
  have hb0 : Below w.heap.size w w := Below.refl _ _
  go_enter Try.func9, Try.ntmps9
  refine wp_seq_k (fun K hK => ?_)
  refine Lin.begin ?_
  refine Lin.take 0 rfl rfl (by go_simp <;> with_reducible rfl) (by simp only [Act.put, List.setIfInBounds_toArray, List.set_cons_zero, List.set_cons_succ] <;> rfl) ?_
  refine Lin.done (hK _ _ ?_)
  clear hK K
  refine wp_seq_k (fun K hK => ?_)
  refine Lin.begin ?_
  refine Lin.enterX (fun r : Option Addr × Nat × Nat => .agg ((exl 0 8).arrv r.1 r.2.1 r.2.2)) 5 rfl rfl (by go_simp <;> (first | exact ⟨rfl, rfl⟩ | rfl)) (exlab_any 0 8 w (by decide) (by decide) (by decide) (by decide)) ?_
  rintro ⟨a0, n0, c0⟩ w1 ⟨hd0, hb0⟩ aa ha; simp only [Act.put, List.setIfInBounds_toArray, List.set_cons_zero, List.set_cons_succ] at ha; subst ha
  have HB1 := Lib.hid (hb0)
  have HD0 := Lib.hid hd0
  clear hd0 hb0
  refine Lin.enterX (fun r : Option Addr × Nat × Nat => .agg ((exl 1 7).arrv r.1 r.2.1 r.2.2)) 6 rfl rfl (by go_simp <;> (first | exact ⟨rfl, rfl⟩ | rfl)) (exlab_any 1 7 w1 (by decide) (by decide) (by decide) (by decide)) ?_
  rintro ⟨a1, n1, c1⟩ w2 ⟨hd1, hb1⟩ aa ha; simp only [Act.put, List.setIfInBounds_toArray, List.set_cons_zero, List.set_cons_succ] at ha; subst ha
  have HB2 := Lib.hid (HB1.out.trans (hb1.mono HB1.out.size))
  replace HD0 := Lib.hid (HD0.out.below hb1)
  have HD1 := Lib.hid hd1
  clear hd1 hb1
  refine Lin.enterX (fun r : Option Addr × Nat × Nat => .agg ((exl 2 7).arrv r.1 r.2.1 r.2.2)) 7 rfl rfl (by go_simp <;> (first | exact ⟨rfl, rfl⟩ | rfl)) (exlab_any 2 7 w2 (by decide) (by decide) (by decide) (by decide)) ?_
  rintro ⟨a2, n2, c2⟩ w3 ⟨hd2, hb2⟩ aa ha; simp only [Act.put, List.setIfInBounds_toArray, List.set_cons_zero, List.set_cons_succ] at ha; subst ha
  have HB3 := Lib.hid (HB2.out.trans (hb2.mono HB2.out.size))
  replace HD0 := Lib.hid (HD0.out.below hb2)
  replace HD1 := Lib.hid (HD1.out.below hb2)
  have HD2 := Lib.hid hd2
  clear hd2 hb2
  refine Lin.enterX (fun r : Option Addr × Nat × Nat => .agg ((exl 3 7).arrv r.1 r.2.1 r.2.2)) 8 rfl rfl (by go_simp <;> (first | exact ⟨rfl, rfl⟩ | rfl)) (exlab_any 3 7 w3 (by decide) (by decide) (by decide) (by decide)) ?_
  rintro ⟨a3, n3, c3⟩ w4 ⟨hd3, hb3⟩ aa ha; simp only [Act.put, List.setIfInBounds_toArray, List.set_cons_zero, List.set_cons_succ] at ha; subst ha
  have HB4 := Lib.hid (HB3.out.trans (hb3.mono HB3.out.size))
  replace HD0 := Lib.hid (HD0.out.below hb3)
  replace HD1 := Lib.hid (HD1.out.below hb3)
  replace HD2 := Lib.hid (HD2.out.below hb3)
  have HD3 := Lib.hid hd3
  clear hd3 hb3
  refine Lin.enterX (fun r : Option Addr × Nat × Nat => .agg ((exl 4 6).arrv r.1 r.2.1 r.2.2)) 9 rfl rfl (by go_simp <;> (first | exact ⟨rfl, rfl⟩ | rfl)) (exlab_any 4 6 w4 (by decide) (by decide) (by decide) (by decide)) ?_
  rintro ⟨a4, n4, c4⟩ w5 ⟨hd4, hb4⟩ aa ha; simp only [Act.put, List.setIfInBounds_toArray, List.set_cons_zero, List.set_cons_succ] at ha; subst ha
  have HB5 := Lib.hid (HB4.out.trans (hb4.mono HB4.out.size))
  replace HD0 := Lib.hid (HD0.out.below hb4)
  replace HD1 := Lib.hid (HD1.out.below hb4)
  replace HD2 := Lib.hid (HD2.out.below hb4)
  replace HD3 := Lib.hid (HD3.out.below hb4)
  have HD4 := Lib.hid hd4
  clear hd4 hb4
  obtain ⟨exs, hexs⟩ : ∃ exs : List LL, exs = [⟨exl 0 8, a0, n0, c0⟩, ⟨exl 1 7, a1, n1, c1⟩, ⟨exl 2 7, a2, n2, c2⟩, ⟨exl 3 7, a3, n3, c3⟩, ⟨exl 4 6, a4, n4, c4⟩] := ⟨_, rfl⟩
  have HDS : Hid (∀ x ∈ exs, Sl w5 1 x.ad x.nd x.c (bb x.l.dead)) := by
    rw [hexs]
    refine Lib.hid (fun x hx => ?_)
    simp only [List.mem_cons, List.not_mem_nil, or_false] at hx
    rcases hx with rfl | rfl | rfl | rfl | rfl
    · exact HD0.out
    · exact HD1.out
    · exact HD2.out
    · exact HD3.out
    · exact HD4.out
  obtain ⟨ie, hie, hiz, his⟩ := info_two info_labelE
  refine wpList_buildSlice rfl 22 32 5 _ rfl (lcs exs).toArray ie (.agg (lbz.arrv none 0 0)) Try.underlying22 hie hiz (by rw [his]; decide) (by rw [his]; decide) (by rw [his, hexs]; kernel_rfl) ?_
  clear hie hiz his
  obtain ⟨w6, hw6⟩ : ∃ z, z = w5.alloc (.cells (lcs exs).toArray 32) := ⟨_, rfl⟩
  rw [← hw6]
  simp only [Act.put, List.setIfInBounds_toArray, List.set_cons_zero, List.set_cons_succ] 
  have HL6 : Hid (Lbs w6 (some ⟨w5.heap.size, 0, none⟩) 5 5 exs) := by rw [hw6]; exact Lib.hid (Lbs.made w5 exs 5 _ (by rw [hexs]; rfl) (by decide) HDS.out)
  have HB6 : Hid (Below w.heap.size w w6) := by rw [hw6]; exact Lib.hid (HB5.out.alloc HB5.out.size _)
  clear hw6
  refine Lin.take 1 rfl rfl (by go_simp <;> with_reducible rfl) (by simp only [Act.put, List.setIfInBounds_toArray, List.set_cons_zero, List.set_cons_succ] <;> rfl) ?_
  refine Lin.done (hK _ _ ?_)
  clear hK K
  have hel : electL exs [true, true, true, true, true] = (exl 0 8, [0, 1, 2, 3, -1], 0) := by rw [hexs]; kernel_rfl
  have hoks : ∀ x ∈ exs, x.l.ok := by
    rw [hexs]
    intro x hx
    simp only [List.mem_cons, List.not_mem_nil, or_false] at hx
    rcases hx with rfl | rfl | rfl | rfl | rfl <;> exact exl_ok (by decide) (by decide) (by decide) (by decide)
  have HELL := Lib.hid hel
  have HOKS := Lib.hid hoks
  clear hexs hel hoks
  obtain ⟨le, hle⟩ : ∃ le, le = exl 0 8 := ⟨_, rfl⟩
  have HGEN : Hid (le.gen = 8) := by rw [hle]; exact Lib.hid rfl
  have HLE := Lib.hid hle
  clear hle
  have HSI : Hid (∀ z az nz cz b, Sl z 1 az nz cz (zc [0, 1, 2, 3, -1]) → Sl z 1 (some ⟨b, 0, none⟩) 5 5 (zc [0, 1, 2, 3, -1]) → Calls Try.prog 14 #[.slice az nz cz, .slice (some ⟨b, 0, none⟩) 5 5] z fun e w' => e = .returned (.bool true) ∧ Below z.heap.size z w') :=
    Lib.hid fun z az nz cz b h1 h2 => (sameInts_any [0, 1, 2, 3, -1] [0, 1, 2, 3, -1] az _ nz 5 cz 5 z h1 h2 (by decide)).mono fun e w' h => ⟨by rw [h.1]; rfl, h.2⟩
  have HCT : Hid (∀ z az nz cz, Sl z 1 az nz cz (zc [0, 1, 2, 3, -1]) → Calls Try.prog 20 #[.slice az nz cz] z fun e w' => e = .returned (.int .i64 1) ∧ Below z.heap.size z w') :=
    Lib.hid fun z az nz cz h1 => (count_any [0, 1, 2, 3, -1] az nz cz z h1 (by decide)).mono fun e w' h => ⟨by rw [h.1]; rfl, h.2⟩
  refine wp_seq_k (fun K hK => ?_)
  refine Lin.begin ?_
  refine Lin.take 12 rfl rfl (by go_simp <;> with_reducible rfl) (by simp only [Act.put, List.setIfInBounds_toArray, List.set_cons_zero, List.set_cons_succ] <;> rfl) ?_
  refine Lin.takeW 13 rfl rfl (by go_simp; exact ⟨rfl, rfl⟩) (by simp only [Act.put, List.setIfInBounds_toArray, List.set_cons_zero, List.set_cons_succ] <;> rfl) ?_
  intro w7 hw7
  obtain ⟨b7, hb7⟩ : ∃ b, b = w6.heap.size := ⟨_, rfl⟩
  rw [← hb7]
  have HT7 : Hid (Sl w7 1 (some ⟨b7, 0, none⟩) 5 5 (bb [true, true, true, true, true])) := by rw [hw7, hb7]; exact Lib.hid (Sl.lit w6 _ _ 5 rfl (by decide) (by decide))
  have HL7 : Hid (Lbs w7 (some ⟨w5.heap.size, 0, none⟩) 5 5 exs) := by rw [hw7]; exact Lib.hid (HL6.out.below ((Below.refl _ _).alloc (Nat.le_refl _) _))
  have HB7 : Hid (Below w.heap.size w w7) := by rw [hw7]; exact Lib.hid (HB6.out.alloc HB6.out.size _)
  clear hw7
  have HEL : Hid (Calls Try.prog 11 #[.slice (some ⟨w5.heap.size, 0, none⟩) 5 5, .slice (some ⟨b7, 0, none⟩) 5 5] w7 fun e w' => ∃ r : (Option Addr × Nat × Nat) × (Option Addr × Nat × Nat), e = .returned (.tuple #[.agg (le.arrv r.1.1 r.1.2.1 r.1.2.2), .slice r.2.1 r.2.2.1 r.2.2.2, .int .i64 0]) ∧ Sl w' 1 r.1.1 r.1.2.1 r.1.2.2 (bb le.dead) ∧ Sl w' 1 r.2.1 r.2.2.1 r.2.2.2 (zc [0, 1, 2, 3, -1]) ∧ Below w7.heap.size w7 w') := by
    refine Lib.hid ((elect_any exs _ 5 5 [true, true, true, true, true] _ 5 5 w7 HL7.out HT7.out HOKS.out (by decide)).mono ?_)
    rintro e w' ⟨ad, nd, cd, az, nz, cz, he, h1, h2, h3⟩
    rw [HELL.out, ← HLE.out] at he h1
    rw [HELL.out] at h2
    exact ⟨((ad, nd, cd), (az, nz, cz)), he, h1, h2, h3⟩
  refine Lin.enterX (fun r : (Option Addr × Nat × Nat) × (Option Addr × Nat × Nat) => .tuple #[.agg (le.arrv r.1.1 r.1.2.1 r.1.2.2), .slice r.2.1 r.2.2.1 r.2.2.2, .int .i64 0]) 14 rfl rfl (by go_simp <;> (first | exact ⟨rfl, rfl⟩ | rfl)) HEL.out ?_
  rintro ⟨⟨ae, ne, ce⟩, ⟨az, nz, cz⟩⟩ w8 ⟨hse, hsz, hb8⟩ aa ha; simp only [Act.put, List.setIfInBounds_toArray, List.set_cons_zero, List.set_cons_succ] at ha; subst ha
  have HSZ := Lib.hid hsz
  have HB8 := Lib.hid (HB7.out.trans (hb8.mono HB7.out.size))
  clear hse hsz hb8
  refine Lin.take 11 rfl rfl (by go_simp <;> with_reducible rfl) (by simp only [Act.put, List.setIfInBounds_toArray, List.set_cons_zero, List.set_cons_succ] <;> rfl) ?_
  refine Lin.take 15 rfl rfl (by go_simp <;> with_reducible rfl) (by simp only [Act.put, List.setIfInBounds_toArray, List.set_cons_zero, List.set_cons_succ] <;> rfl) ?_
  refine Lin.take 16 rfl rfl (by go_simp <;> with_reducible rfl) (by simp only [Act.put, List.setIfInBounds_toArray, List.set_cons_zero, List.set_cons_succ] <;> rfl) ?_
  refine Lin.take 17 rfl rfl (by go_simp <;> with_reducible rfl) (by simp only [Act.put, List.setIfInBounds_toArray, List.set_cons_zero, List.set_cons_succ] <;> rfl) ?_
  refine Lin.takeW 2 rfl rfl (by go_simp; exact ⟨rfl, rfl⟩) (by simp only [Act.put, List.setIfInBounds_toArray, List.set_cons_zero, List.set_cons_succ] <;> rfl) ?_
  intro w9 hw9
  obtain ⟨q, hq⟩ : ∃ q, q = w8.heap.size := ⟨_, rfl⟩
  rw [← hq]
  have hrow9 : w9.heap[q]? = some (.cells (lbz.arrv none 0 0) 32 (0, 0)) := by rw [hw9, hq]; exact heap_alloc_new _ _
  have hb9 : Below w8.heap.size w8 w9 := by rw [hw9]; exact (Below.refl _ _).alloc (Nat.le_refl _) _
  have HQ := Lib.hid hq
  clear hw9 hq
  refine W_store_row 32 q (le.arrv ae ne ce) 32 (lbz.arrv none 0 0) rfl rfl hrow9 (by kernel_rfl) rfl (arrv_one _ _ _ _) ?_
  simp only [Act.put]
  obtain ⟨w10, hw10⟩ : ∃ y, y = w9.setRow q (le.arrv ae ne ce) := ⟨_, rfl⟩
  rw [← hw10]
  have HL10 : Hid (LbAt le ae ne ce q w10) := by rw [hw10]; exact Lib.hid (LbAt.of (setRow_at hrow9))
  have hb10 : Below w8.heap.size w8 w10 := by rw [hw10]; exact below_setRow hb9 (by have := HQ.out; omega) _
  have HB10 := Lib.hid (HB8.out.trans (hb10.mono HB8.out.size))
  have HZ10 := Lib.hid (HSZ.out.below hb10)
  clear hw10 hrow9 hb9 hb10
  refine Lin.take 3 rfl rfl (by go_simp <;> with_reducible rfl) (by simp only [Act.put, List.setIfInBounds_toArray, List.set_cons_zero, List.set_cons_succ] <;> rfl) ?_
  refine Lin.take 4 rfl rfl (by go_simp <;> with_reducible rfl) (by simp only [Act.put, List.setIfInBounds_toArray, List.set_cons_zero, List.set_cons_succ] <;> rfl) ?_
  refine Lin.done (hK _ _ ?_)
  clear hK K
  refine wp_seq_k (fun K hK => ?_)
  refine Lin.begin ?_
  refine Lin.take 18 rfl rfl (by go_simp <;> with_reducible rfl) (by simp only [Act.put, List.setIfInBounds_toArray, List.set_cons_zero, List.set_cons_succ] <;> rfl) ?_
  refine Lin.take 19 rfl rfl (by go_simp <;> with_reducible rfl) (by simp only [Act.put, List.setIfInBounds_toArray, List.set_cons_zero, List.set_cons_succ] <;> rfl) ?_
  refine Lin.bool 20 (x := true) rfl rfl (by go_simp <;> with_reducible rfl) ?_
  intro B20 hB20 aa ha; simp only [Act.put, List.setIfInBounds_toArray, List.set_cons_zero, List.set_cons_succ] at ha; subst ha
  subst hB20
  refine Lin.may 21 true (v := .pointer (some ⟨q, 2, none⟩)) (by kernel_rfl) rfl (by intro hc; go_simp <;> with_reducible rfl) (by simp only [Act.put, List.setIfInBounds_toArray, List.set_cons_zero, List.set_cons_succ] <;> rfl) ?_
  refine Lin.may 22 true (v := .int .u64 8) (by kernel_rfl) rfl (by intro hc; simp only [gv_true]; have hk := HL10.out.k2; rw [HGEN.out] at hk; go_simp <;> with_reducible rfl) (by simp only [Act.put, List.setIfInBounds_toArray, List.set_cons_zero, List.set_cons_succ] <;> rfl) ?_
  refine Lin.may 23 true (v := .bool true) (by kernel_rfl) rfl (by intro hc; simp only [gv_true]; go_simp <;> with_reducible rfl) (by simp only [Act.put, List.setIfInBounds_toArray, List.set_cons_zero, List.set_cons_succ] <;> rfl) ?_
  refine Lin.take 24 (v := .bool true) rfl rfl (by simp only [gv_true]; go_simp <;> with_reducible rfl) (by simp only [Act.put, List.setIfInBounds_toArray, List.set_cons_zero, List.set_cons_succ] <;> rfl) ?_
  refine Lin.bool 25 (x := true) rfl rfl (by go_simp <;> with_reducible rfl) ?_
  intro B25 hB25 aa ha; simp only [Act.put, List.setIfInBounds_toArray, List.set_cons_zero, List.set_cons_succ] at ha; subst ha
  subst hB25
  refine Lin.may 26 true (v := .slice az nz cz) (by kernel_rfl) rfl (by intro hc; go_simp <;> with_reducible rfl) (by simp only [Act.put, List.setIfInBounds_toArray, List.set_cons_zero, List.set_cons_succ] <;> rfl) ?_
  refine wpList_step fun K9 hK9 => ?_
  rw [show Region.wanted _ _ = true from by kernel_rfl, if_pos rfl]
  refine Lin.wp_of_value (v := .slice (some ⟨w10.heap.size, 0, none⟩) 5 5) (w' := w10.alloc (.cells #[.int .i64 0, .int .i64 1, .int .i64 2, .int .i64 3, .int .i64 (-1)] 3)) (by go_simp <;> rfl) (hK9 _ _ ?_)
  clear hK9 K9
  simp only [Act.put, List.setIfInBounds_toArray, List.set_cons_zero, List.set_cons_succ] 
  obtain ⟨w11, hw11⟩ : ∃ z, z = w10.alloc (.cells #[.int .i64 0, .int .i64 1, .int .i64 2, .int .i64 3, .int .i64 (-1)] 3) := ⟨_, rfl⟩
  rw [← hw11]
  obtain ⟨b11, hb11⟩ : ∃ b, b = w10.heap.size := ⟨_, rfl⟩
  rw [← hb11]
  have HS11 : Hid (Sl w11 1 (some ⟨b11, 0, none⟩) 5 5 (zc [0, 1, 2, 3, -1])) := by rw [hw11, hb11]; exact Lib.hid (Sl.lit w10 _ _ 5 rfl (by decide) (by decide))
  have hb11 : Below w10.heap.size w10 w11 := by rw [hw11]; exact (Below.refl _ _).alloc (Nat.le_refl _) _
  have HZ11 := Lib.hid (HZ10.out.below hb11)
  have HB11 := Lib.hid (HB10.out.trans (hb11.mono HB10.out.size))
  clear hw11 hb11
  refine Lin.mayEnter 28 true (v := .bool true) (S := Below w11.heap.size w11) (by kernel_rfl) rfl (by intro hc; simp only [gv_true]; go_simp <;> (first | exact ⟨rfl, rfl⟩ | rfl)) (fun hc => HSI.out w11 az nz cz b11 HZ11.out HS11.out) (fun _ => Below.refl _ _) (by simp only [Act.put, List.setIfInBounds_toArray, List.set_cons_zero, List.set_cons_succ] <;> rfl) ?_
  intro w12 hb12
  have HB12 := Lib.hid (HB11.out.trans (hb12.mono HB11.out.size))
  have HZ12 := Lib.hid (HZ11.out.below hb12)
  clear hb12
  refine Lin.take 29 (v := .bool true) rfl rfl (by simp only [gv_true]; go_simp <;> with_reducible rfl) (by simp only [Act.put, List.setIfInBounds_toArray, List.set_cons_zero, List.set_cons_succ] <;> rfl) ?_
  refine Lin.bool 30 (x := true) rfl rfl (by go_simp <;> with_reducible rfl) ?_
  intro B30 hB30 aa ha; simp only [Act.put, List.setIfInBounds_toArray, List.set_cons_zero, List.set_cons_succ] at ha; subst ha
  subst hB30
  refine Lin.may 31 true (v := .slice az nz cz) (by kernel_rfl) rfl (by intro hc; go_simp <;> with_reducible rfl) (by simp only [Act.put, List.setIfInBounds_toArray, List.set_cons_zero, List.set_cons_succ] <;> rfl) ?_
  refine Lin.mayEnter 32 true (v := .int .i64 1) (S := Below w12.heap.size w12) (by kernel_rfl) rfl (by intro hc; simp only [gv_true]; go_simp <;> (first | exact ⟨rfl, rfl⟩ | rfl)) (fun hc => HCT.out w12 az nz cz HZ12.out) (fun _ => Below.refl _ _) (by simp only [Act.put, List.setIfInBounds_toArray, List.set_cons_zero, List.set_cons_succ] <;> rfl) ?_
  intro w13 hb13
  have HB13 := Lib.hid (HB12.out.trans (hb13.mono HB12.out.size))
  clear hb13
  refine Lin.may 33 true (v := .bool true) (by kernel_rfl) rfl (by intro hc; simp only [gv_true]; go_simp <;> with_reducible rfl) (by simp only [Act.put, List.setIfInBounds_toArray, List.set_cons_zero, List.set_cons_succ] <;> rfl) ?_
  refine Lin.take 34 (v := .bool true) rfl rfl (by simp only [gv_true]; go_simp <;> with_reducible rfl) (by simp only [Act.put, List.setIfInBounds_toArray, List.set_cons_zero, List.set_cons_succ] <;> rfl) ?_
  refine Lin.take 0 rfl rfl (by go_simp <;> with_reducible rfl) (by simp only [Act.put, List.setIfInBounds_toArray, List.set_cons_zero, List.set_cons_succ] <;> rfl) ?_
  refine Lin.done (hK _ _ ?_)
  refine wp_ret ?_
  (try simp only [Exit.then])
  refine bodyPost_ret (results_tmp rfl _ _ _) rfl ?_
  exact ⟨rfl, HB13.out⟩

end Go.Proofs.Ytgpfjinkmagelaa
