/- Labels: the laws' example. (Printed by awake30.py.) -/
import Derived.Test.YtjjknjkpkoeelaaEnc
import Derived.Test.YtjjknjkpkoeelaaAreas
import Derived.Test.YtjjknjkpkoeelaaRefCut
set_option linter.unusedVariables false
set_option linter.unusedSimpArgs false
namespace Go.Proofs.Ytjjknjkpkoeelaa
open Go Go.RowKit Go.Lib

theorem info_bool : (Try.prog.info? 4).map (fun i => (i.zero, i.size, i.bytes)) = some (some (.bool false), 1, 1) := by kernel_rfl
theorem wp_makeB {o : Oper} {a : Act} {K : Act → World → Prop} {Q : Exit → Act → World → Prop} {l c : Operand} {n : Nat} (w : World) (hop : o.op = Op.makeSlice 27 l c) (hl : a.eval l = .int .i64 (n : Int)) (hc : a.eval c = .int .i64 (n : Int)) (hn : n ≤ 1000)
    (h : ∀ w', w'.ownsRow w.heap.size 4 1 (.slice (some ⟨w.heap.size, 0, none⟩) n n) n (bb (List.replicate n false)) → w.grownBy w' none → K (a.put o.dst (.slice (some ⟨w.heap.size, 0, none⟩) n n)) w') : o.wp Try.prog a w K Q := by
  obtain ⟨i0, hi, hz0, hz1, hz2⟩ := info_parts info_bool
  obtain ⟨w', hrun, r1, r2⟩ := run_make_full (P := Try.prog) w w.heap.size 27 4 i0 (.bool false) 1 Try.underlying27 hi hz0 hz1 .i64 .i64 n (by rw [hz2]; omega) (by unfold maxLen; omega) (Nat.le_refl _)
  have hz : (madeCells (Value.bool false).cells (n * 1)).toList = bb (List.replicate n false) := by
    rw [show (Value.bool false).cells = #[.bool false] from rfl, toList_madeCells_one, Nat.mul_one]
    simp [bb]
  rw [hz] at r1
  unfold Oper.wp
  simp [execOp, hop, hl, hc, hrun, Result.andThen]
  exact h w' r1 r2

def lb0 : Lb := { arr := 0, dk := 0, gen := 1, prev := 0, cd := 5, cw := 5, ct := 1, cs := 0, gr := 60, gb := 4, gt := 2, gs := 3, go := 1, ca := 10, cl := 20, dead := [false, false, false, false, false], blob := 0, sum := 0, root := 0 }
theorem lb0_ok : lb0.ok := by constructor <;> decide
theorem lb0_valid : lb0.valid := by decide
theorem lb0_one : (encL lb0).length = 1 := by
  unfold encL
  rw [if_pos lb0_valid, cutL_length]
  unfold partsN payloadL
  have h : ∀ x ∈ [lb0.arr.toNat, lb0.dk.toNat, lb0.gen.toNat, lb0.prev.toNat] ++ lb0.cfgN, x < 128 := by decide
  have h2 : ∀ x ∈ [lb0.blob.toNat, lb0.sum.toNat, lb0.root.toNat], x < 128 := by decide
  have hl : ∀ ns : List Nat, (∀ x ∈ ns, x < 128) → (numsL ns).length = ns.length := by
    intro ns
    induction ns with
    | nil => intro _; rfl
    | cons x ns ih =>
      intro hx
      have h1 := uv1 (hx x (by simp))
      have h2 := ih fun y hy => hx y (by simp [hy])
      simp only [numsL, List.flatMap_cons, List.length_append, List.length_cons] at *
      omega
  have hd : (deadL lb0.dead).length = 1 := deadL_length _
  rw [List.length_append, List.length_append, List.length_append, hl _ h, hl _ h2, hd, uv1 (by decide)]
  decide
theorem e4 : areaRes lb0 4 = .tuple #[.int .i64 0, .int .i64 12, .int .i64 32, .int .i64 0] := by rw [areaRes_ok (od := 0) (by decide) (by decide)]; rfl
theorem e5 : areaRes lb0 5 = .tuple #[.int .i64 6, .int .i64 22, .int .i64 32, .int .i64 0] := by rw [areaRes_ok (od := 1) (by decide) (by decide)]; rfl

set_option maxRecDepth 100000 in
set_option maxHeartbeats 1600000 in
theorem awake_any (w : World) :
    Calls Try.prog 10 #[] w fun e w' => e = .returned (.bool true) ∧ Below w.heap.size w w' := by
  go_enter Try.func10, Try.ntmps10
  refine wp_seq_k (fun K hK => ?_)
  refine Lin.begin ?_
  refine Lin.take 0 rfl rfl (by go_simp <;> with_reducible rfl) (by simp only [Act.put, List.setIfInBounds_toArray, List.set_cons_zero, List.set_cons_succ] <;> rfl) ?_
  refine Lin.done (hK _ _ ?_)
  clear hK K
  refine wp_seq_k (fun K hK => ?_)
  refine Lin.begin ?_
  refine Lin.take 12 rfl rfl (by go_simp <;> with_reducible rfl) (by simp only [Act.put, List.setIfInBounds_toArray, List.set_cons_zero, List.set_cons_succ] <;> rfl) ?_
  refine Lin.take 13 rfl rfl (by go_simp <;> with_reducible rfl) (by simp only [Act.put, List.setIfInBounds_toArray, List.set_cons_zero, List.set_cons_succ] <;> rfl) ?_
  refine Lin.takeW 1 rfl rfl (by go_simp; exact ⟨rfl, rfl⟩) (by simp only [Act.put, List.setIfInBounds_toArray, List.set_cons_zero, List.set_cons_succ] <;> rfl) ?_
  intro w1 hw1
  obtain ⟨g, hg⟩ : ∃ g, g = w.heap.size := ⟨_, rfl⟩
  rw [← hg]
  have ht1 : w1.there g 0 11 := there_of_block (cs := #[.int .i64 0, .int .i64 0, .int .i64 0, .int .i64 0, .int .i64 0, .int .i64 0, .int .i64 0, .int .i64 0, .int .i64 0, .int .i64 0, .int .i64 0]) (T := 26) (by rw [hw1, hg]; exact heap_alloc_new _ _)
  have hb1 : Below w.heap.size w w1 := by rw [hw1]; exact (Below.refl _ _).alloc (Nat.le_refl _) _
  have hg1 : g < w1.heap.size := by rw [hw1, hg]; simp
  have HG := Lib.hid hg
  clear hw1 hg
  refine wpList_store_mid rfl 26 (.tmp 1) (.tmp 13) rfl g 0 #[.int .i64 5, .int .i64 5, .int .i64 1, .int .i64 0, .int .i64 60, .int .i64 4, .int .i64 2, .int .i64 3, .int .i64 1, .int .i64 10, .int .i64 20] rfl rfl ht1 rfl (by simp [Value.oneCell']) ?_
  simp only [Act.put]
  obtain ⟨w2, hw2⟩ : ∃ y, y = w1.setCells g 0 (#[.int .i64 5, .int .i64 5, .int .i64 1, .int .i64 0, .int .i64 60, .int .i64 4, .int .i64 2, .int .i64 3, .int .i64 1, .int .i64 10, .int .i64 20] : Array Value).toList := ⟨_, rfl⟩
  rw [← hw2]
  have HR2 : Hid (w2.rangeAt g 0 (#[.int .i64 5, .int .i64 5, .int .i64 1, .int .i64 0, .int .i64 60, .int .i64 4, .int .i64 2, .int .i64 3, .int .i64 1, .int .i64 10, .int .i64 20] : Array Value).toList) := by rw [hw2]; exact Lib.hid (World.rangeAt_setCells_same _ _ _ _ ht1)
  have HB2 : Hid (Below w.heap.size w w2) := by rw [hw2]; exact Lib.hid (bsc hb1 (by have := HG.out; omega) _ _)
  have hg2 : g < w2.heap.size := by rw [hw2]; have := (bsc (Below.refl 0 w1) (b := g) (Nat.zero_le _) 0 (#[.int .i64 5, .int .i64 5, .int .i64 1, .int .i64 0, .int .i64 60, .int .i64 4, .int .i64 2, .int .i64 3, .int .i64 1, .int .i64 10, .int .i64 20] : Array Value).toList).size; omega
  clear hw2 ht1 hb1
  refine Lin.done (hK _ _ ?_)
  clear hK K
  refine wp_seq_k (fun K hK => ?_)
  refine Lin.begin ?_
  refine Lin.mid 15 true 26 _ g 0 (#[.int .i64 5, .int .i64 5, .int .i64 1, .int .i64 0, .int .i64 60, .int .i64 4, .int .i64 2, .int .i64 3, .int .i64 1, .int .i64 10, .int .i64 20] : Array Value).toList _ (by kernel_rfl) rfl rfl (fun _ => rfl) HR2.out Try.underlying26 rfl (by kernel_rfl) (by simp only [Act.put, List.setIfInBounds_toArray, List.set_cons_zero, List.set_cons_succ] <;> rfl) ?_
  refine Lin.enter 16 rfl rfl (by simp only [gv_true]; go_simp <;> (first | exact ⟨rfl, rfl⟩ | rfl)) (v := .tuple #[.int .i64 0, .int .i64 12, .int .i64 32, .int .i64 0]) (by rw [← e4]; exact areas_any lb0 4 _ (by decide) (by decide) (by decide)) (by simp only [Act.put, List.setIfInBounds_toArray, List.set_cons_zero, List.set_cons_succ] <;> rfl) ?_
  intro w3 hbn
  have HB3 := Lib.hid (HB2.out.trans (hbn.mono HB2.out.size)); have HR3 := Lib.hid (rangeAt_below HR2.out hbn hg2); have hg3 : g < w3.heap.size := Nat.lt_of_lt_of_le hg2 hbn.size
  clear hbn
  refine Lin.take 14 rfl rfl (by go_simp <;> with_reducible rfl) (by simp only [Act.put, List.setIfInBounds_toArray, List.set_cons_zero, List.set_cons_succ] <;> rfl) ?_
  refine Lin.take 17 rfl rfl (by go_simp <;> with_reducible rfl) (by simp only [Act.put, List.setIfInBounds_toArray, List.set_cons_zero, List.set_cons_succ] <;> rfl) ?_
  refine Lin.take 18 rfl rfl (by go_simp <;> with_reducible rfl) (by simp only [Act.put, List.setIfInBounds_toArray, List.set_cons_zero, List.set_cons_succ] <;> rfl) ?_
  refine Lin.take 19 rfl rfl (by go_simp <;> with_reducible rfl) (by simp only [Act.put, List.setIfInBounds_toArray, List.set_cons_zero, List.set_cons_succ] <;> rfl) ?_
  refine Lin.take 20 rfl rfl (by go_simp <;> with_reducible rfl) (by simp only [Act.put, List.setIfInBounds_toArray, List.set_cons_zero, List.set_cons_succ] <;> rfl) ?_
  refine Lin.take 2 rfl rfl (by go_simp <;> with_reducible rfl) (by simp only [Act.put, List.setIfInBounds_toArray, List.set_cons_zero, List.set_cons_succ] <;> rfl) ?_
  refine Lin.take 3 rfl rfl (by go_simp <;> with_reducible rfl) (by simp only [Act.put, List.setIfInBounds_toArray, List.set_cons_zero, List.set_cons_succ] <;> rfl) ?_
  refine Lin.take 4 rfl rfl (by go_simp <;> with_reducible rfl) (by simp only [Act.put, List.setIfInBounds_toArray, List.set_cons_zero, List.set_cons_succ] <;> rfl) ?_
  refine Lin.take 5 rfl rfl (by go_simp <;> with_reducible rfl) (by simp only [Act.put, List.setIfInBounds_toArray, List.set_cons_zero, List.set_cons_succ] <;> rfl) ?_
  refine Lin.done (hK _ _ ?_)
  clear hK K
  refine wp_seq_k (fun K hK => ?_)
  refine Lin.begin ?_
  refine Lin.mid 22 true 26 _ g 0 (#[.int .i64 5, .int .i64 5, .int .i64 1, .int .i64 0, .int .i64 60, .int .i64 4, .int .i64 2, .int .i64 3, .int .i64 1, .int .i64 10, .int .i64 20] : Array Value).toList _ (by kernel_rfl) rfl rfl (fun _ => rfl) HR3.out Try.underlying26 rfl (by kernel_rfl) (by simp only [Act.put, List.setIfInBounds_toArray, List.set_cons_zero, List.set_cons_succ] <;> rfl) ?_
  refine Lin.enter 23 rfl rfl (by simp only [gv_true]; go_simp <;> (first | exact ⟨rfl, rfl⟩ | rfl)) (v := .tuple #[.int .i64 6, .int .i64 22, .int .i64 32, .int .i64 0]) (by rw [← e5]; exact areas_any lb0 5 _ (by decide) (by decide) (by decide)) (by simp only [Act.put, List.setIfInBounds_toArray, List.set_cons_zero, List.set_cons_succ] <;> rfl) ?_
  intro w4 hbn
  have HB4 := Lib.hid (HB3.out.trans (hbn.mono HB3.out.size)); have HR4 := Lib.hid (rangeAt_below HR3.out hbn hg3); have hg4 : g < w4.heap.size := Nat.lt_of_lt_of_le hg3 hbn.size
  clear hbn
  refine Lin.take 21 rfl rfl (by go_simp <;> with_reducible rfl) (by simp only [Act.put, List.setIfInBounds_toArray, List.set_cons_zero, List.set_cons_succ] <;> rfl) ?_
  refine Lin.take 24 rfl rfl (by go_simp <;> with_reducible rfl) (by simp only [Act.put, List.setIfInBounds_toArray, List.set_cons_zero, List.set_cons_succ] <;> rfl) ?_
  refine Lin.take 25 rfl rfl (by go_simp <;> with_reducible rfl) (by simp only [Act.put, List.setIfInBounds_toArray, List.set_cons_zero, List.set_cons_succ] <;> rfl) ?_
  refine Lin.take 26 rfl rfl (by go_simp <;> with_reducible rfl) (by simp only [Act.put, List.setIfInBounds_toArray, List.set_cons_zero, List.set_cons_succ] <;> rfl) ?_
  refine Lin.take 27 rfl rfl (by go_simp <;> with_reducible rfl) (by simp only [Act.put, List.setIfInBounds_toArray, List.set_cons_zero, List.set_cons_succ] <;> rfl) ?_
  refine Lin.take 6 rfl rfl (by go_simp <;> with_reducible rfl) (by simp only [Act.put, List.setIfInBounds_toArray, List.set_cons_zero, List.set_cons_succ] <;> rfl) ?_
  refine Lin.take 7 rfl rfl (by go_simp <;> with_reducible rfl) (by simp only [Act.put, List.setIfInBounds_toArray, List.set_cons_zero, List.set_cons_succ] <;> rfl) ?_
  refine Lin.take 8 rfl rfl (by go_simp <;> with_reducible rfl) (by simp only [Act.put, List.setIfInBounds_toArray, List.set_cons_zero, List.set_cons_succ] <;> rfl) ?_
  refine Lin.take 9 rfl rfl (by go_simp <;> with_reducible rfl) (by simp only [Act.put, List.setIfInBounds_toArray, List.set_cons_zero, List.set_cons_succ] <;> rfl) ?_
  refine Lin.done (hK _ _ ?_)
  clear hK K
  refine wp_seq_k (fun K hK => ?_)
  have hKK := Lib.hid hK
  clear hK
  have HB : Hid (Below w4.heap.size w4 w4.drew) := Lib.hid (Below.refl _ _).drew
  have hs : w4.heap.size ≤ w4.drew.heap.size := Nat.le_refl _
  refine Rest.begin 9 (by kernel_rfl) (by kernel_rfl) ?_
  refine Rest.takeMid 0 29 rfl (by kernel_rfl) (by kernel_rfl) (by kernel_rfl) 26 _ g 0 (#[.int .i64 5, .int .i64 5, .int .i64 1, .int .i64 0, .int .i64 60, .int .i64 4, .int .i64 2, .int .i64 3, .int .i64 1, .int .i64 10, .int .i64 20] : Array Value).toList _ (fun _ _ _ h => h) (by rfl) rfl rfl (fun x hx => rangeAt_below HR4.out (later HB hs hx) hg4) Try.underlying26 rfl (by kernel_rfl) rfl (by simp only [Act.put, List.setIfInBounds_toArray, List.set_cons_zero, List.set_cons_succ] <;> rfl) ?_
  refine Rest.step 1 rfl (by kernel_rfl) (by rfl) (fun K hK => ?_)
  refine wp_makeB (n := 5) w4.drew rfl rfl rfl (by omega) ?_
  intro wy hoy hgy
  simp only [Act.put, List.setIfInBounds_toArray, List.set_cons_zero, List.set_cons_succ] 
  have hb : Below w4.drew.heap.size w4.drew wy := (Below.refl _ _).grown hgy (Nat.le_refl _) (by simp)
  refine hK.out _ _ hb ?_
  clear hK K
  have HSD : Hid (Sl wy 1 (some ⟨w4.drew.heap.size, 0, none⟩) 5 5 (bb lb0.dead)) := Lib.hid (Sl.of_owns hoy (bb_one _)).2
  have HB := Lib.hid (HB.out.trans (hb.mono hs))
  have hs := Nat.le_trans hs hb.size
  clear hoy hgy hb
  refine Rest.take 2 31 rfl (by kernel_rfl) (by kernel_rfl) (by kernel_rfl) (fun _ _ _ h => h) (by rfl) (by rfl) (by intro x hx; go_simp <;> with_reducible rfl) (by simp only [Act.put, List.setIfInBounds_toArray, List.set_cons_zero, List.set_cons_succ] <;> rfl) ?_
  refine Rest.step 3 rfl (by kernel_rfl) (by rfl) (fun K hK => ?_)
  go_simp
  go_at_call 11
  refine (encode_any lb0 (some ⟨w4.drew.heap.size, 0, none⟩) 5 5 wy HSD.out lb0_ok).mono ?_
  rintro e wn ⟨a1, n1, c1, rfl, hsl, hb⟩
  have hn1 : n1 = 1 := by rw [← hsl.len]; exact lb0_one
  subst hn1
  rw [if_pos lb0_valid]
  refine hK.out _ _ hb ?_
  clear hK K
  have HB := Lib.hid (HB.out.trans (hb.mono hs))
  have hs := Nat.le_trans hs hb.size
  clear hsl hb
  refine Rest.take 4 28 rfl (by kernel_rfl) (by kernel_rfl) (by kernel_rfl) (fun _ _ _ h => h) (by rfl) (by rfl) (by intro x hx; go_simp <;> with_reducible rfl) (by simp only [Act.put, List.setIfInBounds_toArray, List.set_cons_zero, List.set_cons_succ] <;> rfl) ?_
  refine Rest.take 5 33 rfl (by kernel_rfl) (by kernel_rfl) (by kernel_rfl) (fun _ _ _ h => h) (by rfl) (by rfl) (by intro x hx; go_simp <;> with_reducible rfl) (by simp only [Act.put, List.setIfInBounds_toArray, List.set_cons_zero, List.set_cons_succ] <;> rfl) ?_
  refine Rest.take 6 34 rfl (by kernel_rfl) (by kernel_rfl) (by kernel_rfl) (fun _ _ _ h => h) (by rfl) (by rfl) (by intro x hx; go_simp <;> with_reducible rfl) (by simp only [Act.put, List.setIfInBounds_toArray, List.set_cons_zero, List.set_cons_succ] <;> rfl) ?_
  refine Rest.take 7 10 rfl (by kernel_rfl) (by kernel_rfl) (by kernel_rfl) (fun _ _ _ h => h) (by rfl) (by rfl) (by intro x hx; go_simp <;> with_reducible rfl) (by simp only [Act.put, List.setIfInBounds_toArray, List.set_cons_zero, List.set_cons_succ] <;> rfl) ?_
  refine Rest.take 8 11 rfl (by kernel_rfl) (by kernel_rfl) (by kernel_rfl) (fun _ _ _ h => h) (by rfl) (by rfl) (by intro x hx; go_simp <;> with_reducible rfl) (by simp only [Act.put, List.setIfInBounds_toArray, List.set_cons_zero, List.set_cons_succ] <;> rfl) ?_
  refine Rest.done (by kernel_rfl) ?_
  refine hKK.out _ _ ?_
  clear hKK
  refine wp_seq_k (fun K hK => ?_)
  refine Lin.begin ?_
  refine Lin.take 35 rfl rfl (by go_simp <;> with_reducible rfl) (by simp only [Act.put, List.setIfInBounds_toArray, List.set_cons_zero, List.set_cons_succ] <;> rfl) ?_
  refine Lin.take 36 rfl rfl (by go_simp <;> with_reducible rfl) (by simp only [Act.put, List.setIfInBounds_toArray, List.set_cons_zero, List.set_cons_succ] <;> rfl) ?_
  refine Lin.bool 37 rfl rfl (by go_simp <;> with_reducible rfl) ?_
  intro B37 hB37 aa ha; simp only [Act.put, List.setIfInBounds_toArray, List.set_cons_zero, List.set_cons_succ] at ha; subst ha; replace hB37 := Lib.hid hB37
  refine Lin.may 38 B37 (by cases B37 <;> kernel_rfl) rfl (by intro hc; (try simp only [hc, gv_true]); go_simp <;> with_reducible rfl) (by simp only [Act.put, List.setIfInBounds_toArray, List.set_cons_zero, List.set_cons_succ] <;> rfl) ?_
  refine Lin.may 39 B37 (by cases B37 <;> kernel_rfl) rfl (by intro hc; (try simp only [hc, gv_true]); go_simp <;> with_reducible rfl) (by simp only [Act.put, List.setIfInBounds_toArray, List.set_cons_zero, List.set_cons_succ] <;> rfl) ?_
  refine Lin.and 40 37 39 rfl rfl rfl rfl rfl ?_
  intro B40 hB40 aa ha; simp only [Act.put, List.setIfInBounds_toArray, List.set_cons_zero, List.set_cons_succ] at ha; subst ha; replace hB40 := Lib.hid hB40
  refine Lin.take 41 rfl rfl (by go_simp <;> with_reducible rfl) (by simp only [Act.put, List.setIfInBounds_toArray, List.set_cons_zero, List.set_cons_succ] <;> rfl) ?_
  refine Lin.may 42 B40 (by cases B40 <;> kernel_rfl) rfl (by intro hc; (try simp only [hc, gv_true]); go_simp <;> with_reducible rfl) (by simp only [Act.put, List.setIfInBounds_toArray, List.set_cons_zero, List.set_cons_succ] <;> rfl) ?_
  refine Lin.may 43 B40 (by cases B40 <;> kernel_rfl) rfl (by intro hc; (try simp only [hc, gv_true]); go_simp <;> with_reducible rfl) (by simp only [Act.put, List.setIfInBounds_toArray, List.set_cons_zero, List.set_cons_succ] <;> rfl) ?_
  refine Lin.and 44 41 43 rfl rfl rfl rfl rfl ?_
  intro B44 hB44 aa ha; simp only [Act.put, List.setIfInBounds_toArray, List.set_cons_zero, List.set_cons_succ] at ha; subst ha; replace hB44 := Lib.hid hB44
  refine Lin.take 45 rfl rfl (by go_simp <;> with_reducible rfl) (by simp only [Act.put, List.setIfInBounds_toArray, List.set_cons_zero, List.set_cons_succ] <;> rfl) ?_
  refine Lin.may 46 B44 (by cases B44 <;> kernel_rfl) rfl (by intro hc; (try simp only [hc, gv_true]); go_simp <;> with_reducible rfl) (by simp only [Act.put, List.setIfInBounds_toArray, List.set_cons_zero, List.set_cons_succ] <;> rfl) ?_
  refine Lin.may 47 B44 (by cases B44 <;> kernel_rfl) rfl (by intro hc; (try simp only [hc, gv_true]); go_simp <;> with_reducible rfl) (by simp only [Act.put, List.setIfInBounds_toArray, List.set_cons_zero, List.set_cons_succ] <;> rfl) ?_
  refine Lin.may 48 B44 (by cases B44 <;> kernel_rfl) rfl (by intro hc; (try simp only [hc, gv_true]); go_simp <;> with_reducible rfl) (by simp only [Act.put, List.setIfInBounds_toArray, List.set_cons_zero, List.set_cons_succ] <;> rfl) ?_
  refine Lin.and 49 45 48 rfl rfl rfl rfl rfl ?_
  intro B49 hB49 aa ha; simp only [Act.put, List.setIfInBounds_toArray, List.set_cons_zero, List.set_cons_succ] at ha; subst ha; replace hB49 := Lib.hid hB49
  refine Lin.take 50 rfl rfl (by go_simp <;> with_reducible rfl) (by simp only [Act.put, List.setIfInBounds_toArray, List.set_cons_zero, List.set_cons_succ] <;> rfl) ?_
  refine Lin.may 51 B49 (by cases B49 <;> kernel_rfl) rfl (by intro hc; (try simp only [hc, gv_true]); go_simp <;> with_reducible rfl) (by simp only [Act.put, List.setIfInBounds_toArray, List.set_cons_zero, List.set_cons_succ] <;> rfl) ?_
  refine Lin.may 52 B49 (by cases B49 <;> kernel_rfl) rfl (by intro hc; (try simp only [hc, gv_true]); go_simp <;> with_reducible rfl) (by simp only [Act.put, List.setIfInBounds_toArray, List.set_cons_zero, List.set_cons_succ] <;> rfl) ?_
  refine Lin.and 53 50 52 rfl rfl rfl rfl rfl ?_
  intro B53 hB53 aa ha; simp only [Act.put, List.setIfInBounds_toArray, List.set_cons_zero, List.set_cons_succ] at ha; subst ha; replace hB53 := Lib.hid hB53
  refine Lin.take 54 rfl rfl (by go_simp <;> with_reducible rfl) (by simp only [Act.put, List.setIfInBounds_toArray, List.set_cons_zero, List.set_cons_succ] <;> rfl) ?_
  refine Lin.may 55 B53 (by cases B53 <;> kernel_rfl) rfl (by intro hc; (try simp only [hc, gv_true]); go_simp <;> with_reducible rfl) (by simp only [Act.put, List.setIfInBounds_toArray, List.set_cons_zero, List.set_cons_succ] <;> rfl) ?_
  refine Lin.may 56 B53 (by cases B53 <;> kernel_rfl) rfl (by intro hc; (try simp only [hc, gv_true]); go_simp <;> with_reducible rfl) (by simp only [Act.put, List.setIfInBounds_toArray, List.set_cons_zero, List.set_cons_succ] <;> rfl) ?_
  refine Lin.and 57 54 56 rfl rfl rfl rfl rfl ?_
  intro B57 hB57 aa ha; simp only [Act.put, List.setIfInBounds_toArray, List.set_cons_zero, List.set_cons_succ] at ha; subst ha; replace hB57 := Lib.hid hB57
  refine Lin.take 58 rfl rfl (by go_simp <;> with_reducible rfl) (by simp only [Act.put, List.setIfInBounds_toArray, List.set_cons_zero, List.set_cons_succ] <;> rfl) ?_
  refine Lin.may 59 B57 (by cases B57 <;> kernel_rfl) rfl (by intro hc; (try simp only [hc, gv_true]); go_simp <;> with_reducible rfl) (by simp only [Act.put, List.setIfInBounds_toArray, List.set_cons_zero, List.set_cons_succ] <;> rfl) ?_
  refine Lin.may 60 B57 (by cases B57 <;> kernel_rfl) rfl (by intro hc; (try simp only [hc, gv_true]); go_simp <;> with_reducible rfl) (by simp only [Act.put, List.setIfInBounds_toArray, List.set_cons_zero, List.set_cons_succ] <;> rfl) ?_
  refine Lin.and 61 58 60 rfl rfl rfl rfl rfl ?_
  intro B61 hB61 aa ha; simp only [Act.put, List.setIfInBounds_toArray, List.set_cons_zero, List.set_cons_succ] at ha; subst ha; replace hB61 := Lib.hid hB61
  refine Lin.take 62 rfl rfl (by go_simp <;> with_reducible rfl) (by simp only [Act.put, List.setIfInBounds_toArray, List.set_cons_zero, List.set_cons_succ] <;> rfl) ?_
  refine Lin.may 63 B61 (by cases B61 <;> kernel_rfl) rfl (by intro hc; (try simp only [hc, gv_true]); go_simp <;> with_reducible rfl) (by simp only [Act.put, List.setIfInBounds_toArray, List.set_cons_zero, List.set_cons_succ] <;> rfl) ?_
  refine Lin.may 64 B61 (by cases B61 <;> kernel_rfl) rfl (by intro hc; (try simp only [hc, gv_true]); go_simp <;> with_reducible rfl) (by simp only [Act.put, List.setIfInBounds_toArray, List.set_cons_zero, List.set_cons_succ] <;> rfl) ?_
  refine Lin.and 65 62 64 rfl rfl rfl rfl rfl ?_
  intro B65 hB65 aa ha; simp only [Act.put, List.setIfInBounds_toArray, List.set_cons_zero, List.set_cons_succ] at ha; subst ha; replace hB65 := Lib.hid hB65
  refine Lin.take 66 rfl rfl (by go_simp <;> with_reducible rfl) (by simp only [Act.put, List.setIfInBounds_toArray, List.set_cons_zero, List.set_cons_succ] <;> rfl) ?_
  refine Lin.may 67 B65 (by cases B65 <;> kernel_rfl) rfl (by intro hc; (try simp only [hc, gv_true]); go_simp <;> with_reducible rfl) (by simp only [Act.put, List.setIfInBounds_toArray, List.set_cons_zero, List.set_cons_succ] <;> rfl) ?_
  refine Lin.may 68 B65 (by cases B65 <;> kernel_rfl) rfl (by intro hc; (try simp only [hc, gv_true]); go_simp <;> with_reducible rfl) (by simp only [Act.put, List.setIfInBounds_toArray, List.set_cons_zero, List.set_cons_succ] <;> rfl) ?_
  refine Lin.and 69 66 68 rfl rfl rfl rfl rfl ?_
  intro B69 hB69 aa ha; simp only [Act.put, List.setIfInBounds_toArray, List.set_cons_zero, List.set_cons_succ] at ha; subst ha; replace hB69 := Lib.hid hB69
  refine Lin.take 70 rfl rfl (by go_simp <;> with_reducible rfl) (by simp only [Act.put, List.setIfInBounds_toArray, List.set_cons_zero, List.set_cons_succ] <;> rfl) ?_
  refine Lin.may 71 B69 (by cases B69 <;> kernel_rfl) rfl (by intro hc; (try simp only [hc, gv_true]); go_simp <;> with_reducible rfl) (by simp only [Act.put, List.setIfInBounds_toArray, List.set_cons_zero, List.set_cons_succ] <;> rfl) ?_
  refine Lin.may 72 B69 (by cases B69 <;> kernel_rfl) rfl (by intro hc; (try simp only [hc, gv_true]); go_simp <;> with_reducible rfl) (by simp only [Act.put, List.setIfInBounds_toArray, List.set_cons_zero, List.set_cons_succ] <;> rfl) ?_
  refine Lin.and 73 70 72 rfl rfl rfl rfl rfl ?_
  intro B73 hB73 aa ha; simp only [Act.put, List.setIfInBounds_toArray, List.set_cons_zero, List.set_cons_succ] at ha; subst ha; replace hB73 := Lib.hid hB73
  refine Lin.take 0 rfl rfl (by go_simp <;> with_reducible rfl) (by simp only [Act.put, List.setIfInBounds_toArray, List.set_cons_zero, List.set_cons_succ] <;> rfl) ?_
  refine Lin.done (hK _ _ ?_)
  refine wp_ret ?_
  refine bodyPost_ret (results_tmp rfl _ _ _) rfl ?_
  refine ⟨?_, HB4.out.trans (HB.out.mono HB4.out.size)⟩
  have hval : B73 = true := by simp [hB37.out, hB40.out, hB44.out, hB49.out, hB53.out, hB57.out, hB61.out, hB65.out, hB69.out, hB73.out]
  rw [← hval]
  rfl

end Go.Proofs.Ytjjknjkpkoeelaa
