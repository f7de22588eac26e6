/- LabelEncode: for every label the law returns true. (Printed by lawenc.py.) -/
import Derived.Test.YtjjknjkpkoeelaaAwake30
import Derived.Test.YtjjknjkpkoeelaaReadL
set_option linter.unusedVariables false
set_option linter.unusedSimpArgs false
namespace Go.Proofs.Ytjjknjkpkoeelaa
open Go Go.RowKit Go.Lib

theorem Lin.enterP {P : Program} {ops : Array Oper} {Q : Exit → Act → World → Prop} {rest : List Oper} {o : Oper} {a : Act} {w : World} (d : Nat) {f : FuncId} {args : Array Value} {ev : Value} {R : Option Addr → Nat → Nat → World → Prop} (hg : o.guard = none) (hd : o.dst = some d) (hv : (execOp a.eval o).run P w = .ok (.enter f args) w)
    (hc : Calls P f args w fun e w' => ∃ a1 n1 c1, e = .returned (.tuple #[.slice a1 n1 c1, ev]) ∧ R a1 n1 c1 w') (h : ∀ a1 n1 c1 w', R a1 n1 c1 w' → ∀ a', a.put (some d) (.tuple #[.slice a1 n1 c1, ev]) = a' → wpList P ops Q rest a' w') : wpList P ops Q (o :: rest) a w :=
  wpList_plain hg fun K hK => by
    unfold Oper.wp
    rw [hv, Oper.upon_enter]
    refine hc.mono ?_
    rintro e w' ⟨a1, n1, c1, rfl, hR⟩
    exact hK _ _ (by rw [hd]; exact h a1 n1 c1 w' hR _ rfl)

theorem encL_length {l : Lb} (hok : l.ok) : (encL l).length ≤ 6 := by
  unfold encL
  split
  · rename_i hv
    rw [cutL_length]
    have := payloadL_length hok hv
    unfold partsN
    omega
  · simp
theorem encL_sector {l : Lb} (hok : l.ok) {x : List UInt8} (hmem : x ∈ encL l) : x.length ≤ 64 := by
  unfold encL at hmem
  split at hmem
  · rename_i hv
    have hp := payloadL_length hok hv
    obtain ⟨k, hk, he⟩ := List.mem_map.1 hmem
    rw [← he]
    have hk' : k < partsN (payloadL l) := by simpa using hk
    have hn : partsN (payloadL l) ≤ 6 := by unfold partsN; omega
    have h1 := hv.2.2.1
    have h2 : l.cd ≤ 60 := hv.1.2.1
    have h3 := hv.2.2.2.2.1
    have e1 := uv5 (x := l.gen.toNat) (by omega)
    have e2 := uv1 (x := l.dk.toNat) (by omega)
    have e3 := uv1 (x := k) (by omega)
    have e4 := uv1 (x := partsN (payloadL l)) (by omega)
    have e5 := chunkL_length (payloadL l) k
    have e6 := uv1 (x := (chunkL (payloadL l) k).length) (by omega)
    unfold sectorL
    rw [sealL_length]
    simp only [numsL, List.flatMap_cons, List.flatMap_nil, List.length_append, List.length_cons, List.length_nil]
    omega
  · simp at hmem

set_option maxRecDepth 100000 in
set_option maxHeartbeats 1600000 in
theorem labelEncode_walk (l : Lb) (ad : Option Addr) (nd c : Nat) (w : World) (h : Sl w 1 ad nd c (bb l.dead)) (hnum : l.num) :
    Calls Try.prog 3 #[.agg (l.arrv ad nd c)] w fun e w' => e = .returned (.bool true) ∧ Below w.heap.size w w' := by
  have HH := Lib.hid h
  have HNU := Lib.hid hnum
  have HN := Lib.hid (show nd = l.dead.length by have := h.len; rw [bb_length, Nat.mul_one] at this; omega)
  clear h hnum
  obtain ⟨E, hE⟩ : ∃ E : Int, E = if l.valid then 0 else 1 := ⟨_, rfl⟩
  have HE := Lib.hid hE
  clear hE
  unfold Lb.arrv
  go_enter Try.func3, Try.ntmps3
  refine wp_seq_k (fun K hK => ?_)
  refine Lin.begin ?_
  refine Lin.takeW 1 rfl rfl (by go_simp; exact ⟨rfl, rfl⟩) (by simp only [Act.put, List.setIfInBounds_toArray, List.set_cons_zero, List.set_cons_succ] <;> rfl) ?_
  intro w1 hw1
  obtain ⟨g, hg⟩ : ∃ g, g = w.heap.size := ⟨_, rfl⟩
  have L1 : Hid (LbAt l ad nd c g w1) := by rw [hw1, hg]; exact Lib.hid (LbAt.new l ad nd c 29 w)
  have HB1 : Hid (Below w.heap.size w w1) := by rw [hw1]; exact Lib.hid ((Below.refl w.heap.size w).alloc (Nat.le_refl _) _)
  have hz1 : w.heap.size ≤ w1.heap.size := HB1.out.size
  have hg1 : g < w1.heap.size := by rw [hw1, hg]; simp
  rw [← hg]
  have HG := Lib.hid hg
  clear hw1 hg
  refine Lin.take 2 rfl rfl (by go_simp <;> with_reducible rfl) (by simp only [Act.put, List.setIfInBounds_toArray, List.set_cons_zero, List.set_cons_succ] <;> rfl) ?_
  refine Lin.done (hK _ _ ?_)
  clear hK K
  refine wp_seq_k (fun K1 hK1 => ?_)
  refine wp_seq_k (fun K hK => ?_)
  refine Lin.begin ?_
  refine Lin.enter 8 rfl rfl (by go_simp <;> (first | exact ⟨rfl, rfl⟩ | rfl)) (awake_any w1) (by simp only [Act.put, List.setIfInBounds_toArray, List.set_cons_zero, List.set_cons_succ] <;> rfl) ?_
  intro w2 hb2
  have HB2 := Lib.hid (HB1.out.trans (hb2.mono hz1)); have L2 := Lib.hid (L1.out.below hb2 hg1); have hg2 : g < w2.heap.size := Nat.lt_of_lt_of_le hg1 hb2.size
  clear hb2
  refine Lin.take 9 rfl rfl (by go_simp <;> with_reducible rfl) (by simp only [Act.put, List.setIfInBounds_toArray, List.set_cons_zero, List.set_cons_succ] <;> rfl) ?_
  refine Lin.done (hK _ _ ?_)
  refine wp_cond_false rfl ?_
  refine wp_skip ?_
  refine hK1 _ _ ?_
  clear hK1 K1 hK K
  refine wp_seq_k (fun K1 hK1 => ?_)
  refine wp_seq_k (fun K hK => ?_)
  refine Lin.begin ?_
  refine Lin.take 10 rfl rfl (by go_simp <;> with_reducible rfl) (by simp only [Act.put, List.setIfInBounds_toArray, List.set_cons_zero, List.set_cons_succ] <;> rfl) ?_
  refine Lin.take 11 rfl rfl (by have k15 := L2.out.k15; go_simp <;> with_reducible rfl) (by simp only [Act.put, List.setIfInBounds_toArray, List.set_cons_zero, List.set_cons_succ] <;> rfl) ?_
  refine Lin.take 12 rfl rfl (by go_simp <;> with_reducible rfl) (by simp only [Act.put, List.setIfInBounds_toArray, List.set_cons_zero, List.set_cons_succ] <;> rfl) ?_
  refine Lin.take 13 rfl rfl (by go_simp <;> with_reducible rfl) (by simp only [Act.put, List.setIfInBounds_toArray, List.set_cons_zero, List.set_cons_succ] <;> rfl) ?_
  refine Lin.done (hK _ _ ?_)
  refine wp_cond_split rfl (fun ht => ?_) (fun hf => ?_)
  · refine wp_seq_k (fun K2 hK2 => ?_)
    refine Lin.begin ?_
    refine Lin.take 2 rfl rfl (by go_simp <;> with_reducible rfl) (by simp only [Act.put, List.setIfInBounds_toArray, List.set_cons_zero, List.set_cons_succ] <;> rfl) ?_
    refine Lin.done (hK2 _ _ ?_)
    refine wp_ret ?_
    simp only [Exit.then]
    refine bodyPost_ret (results_tmp rfl _ _ _) rfl ?_
    exact ⟨rfl, HB2.out⟩
  have HO : Hid l.ok := by
    simp only [decide_eq_false_iff_not] at hf
    exact Lib.hid (HNU.out.ok (by have := HN.out; omega))
  clear hf
  refine wp_skip ?_
  refine hK1 _ _ ?_
  clear hK1 K1 hK K
  refine wp_seq_k (fun K hK => ?_)
  refine Lin.begin ?_
  refine Lin.mid 15 true 29 _ g 0 (l.arrv ad nd c).toList _ (by kernel_rfl) rfl rfl (fun _ => rfl) L2.out.range Try.underlying29 rfl (by kernel_rfl) (by simp only [Act.put, List.setIfInBounds_toArray, List.set_cons_zero, List.set_cons_succ] <;> rfl) ?_
  refine Lin.enterP 16 (ev := .int .i64 E) (R := fun a1 n1 c1 w' => Sls w' a1 n1 c1 (encL l) ∧ Below w2.heap.size w2 w') rfl rfl (by simp only [gv_true]; go_simp <;> (first | exact ⟨rfl, rfl⟩ | rfl)) (by rw [HE.out]; exact encode_any l ad nd c _ (HH.out.below HB2.out) HO.out) ?_
  rintro A1 nA1 cA1 w3 ⟨hs, hb⟩ aa ha; simp only [Act.put, List.setIfInBounds_toArray, List.set_cons_zero, List.set_cons_succ] at ha; subst ha
  have HB3 := Lib.hid (HB2.out.trans (hb.mono HB2.out.size)); have L3 := Lib.hid (L2.out.below hb hg2); have hg3 : g < w3.heap.size := Nat.lt_of_lt_of_le hg2 hb.size
  have HSA1 := Lib.hid hs
  clear hs hb
  refine Lin.take 14 rfl rfl (by go_simp <;> with_reducible rfl) (by simp only [Act.put, List.setIfInBounds_toArray, List.set_cons_zero, List.set_cons_succ] <;> rfl) ?_
  refine Lin.take 17 rfl rfl (by go_simp <;> with_reducible rfl) (by simp only [Act.put, List.setIfInBounds_toArray, List.set_cons_zero, List.set_cons_succ] <;> rfl) ?_
  refine Lin.take 18 rfl rfl (by go_simp <;> with_reducible rfl) (by simp only [Act.put, List.setIfInBounds_toArray, List.set_cons_zero, List.set_cons_succ] <;> rfl) ?_
  refine Lin.take 3 rfl rfl (by go_simp <;> with_reducible rfl) (by simp only [Act.put, List.setIfInBounds_toArray, List.set_cons_zero, List.set_cons_succ] <;> rfl) ?_
  refine Lin.take 4 rfl rfl (by go_simp <;> with_reducible rfl) (by simp only [Act.put, List.setIfInBounds_toArray, List.set_cons_zero, List.set_cons_succ] <;> rfl) ?_
  refine Lin.done (hK _ _ ?_)
  clear hK K
  refine wp_seq_k (fun K hK => ?_)
  refine Lin.begin ?_
  refine Lin.mid 20 true 29 _ g 0 (l.arrv ad nd c).toList _ (by kernel_rfl) rfl rfl (fun _ => rfl) L3.out.range Try.underlying29 rfl (by kernel_rfl) (by simp only [Act.put, List.setIfInBounds_toArray, List.set_cons_zero, List.set_cons_succ] <;> rfl) ?_
  refine Lin.enterP 21 (ev := .int .i64 E) (R := fun a1 n1 c1 w' => Sls w' a1 n1 c1 (encL l) ∧ Below w3.heap.size w3 w') rfl rfl (by simp only [gv_true]; go_simp <;> (first | exact ⟨rfl, rfl⟩ | rfl)) (by rw [HE.out]; exact refEncode_any l ad nd c _ (HH.out.below HB3.out) HO.out) ?_
  rintro A2 nA2 cA2 w4 ⟨hs, hb⟩ aa ha; simp only [Act.put, List.setIfInBounds_toArray, List.set_cons_zero, List.set_cons_succ] at ha; subst ha
  have HB4 := Lib.hid (HB3.out.trans (hb.mono HB3.out.size)); have L4 := Lib.hid (L3.out.below hb hg3); have hg4 : g < w4.heap.size := Nat.lt_of_lt_of_le hg3 hb.size
  have HSA2 := Lib.hid hs
  have HSA1 := Lib.hid (HSA1.out.below hb)
  clear hs hb
  refine Lin.take 19 rfl rfl (by go_simp <;> with_reducible rfl) (by simp only [Act.put, List.setIfInBounds_toArray, List.set_cons_zero, List.set_cons_succ] <;> rfl) ?_
  refine Lin.take 22 rfl rfl (by go_simp <;> with_reducible rfl) (by simp only [Act.put, List.setIfInBounds_toArray, List.set_cons_zero, List.set_cons_succ] <;> rfl) ?_
  refine Lin.take 23 rfl rfl (by go_simp <;> with_reducible rfl) (by simp only [Act.put, List.setIfInBounds_toArray, List.set_cons_zero, List.set_cons_succ] <;> rfl) ?_
  refine Lin.take 5 rfl rfl (by go_simp <;> with_reducible rfl) (by simp only [Act.put, List.setIfInBounds_toArray, List.set_cons_zero, List.set_cons_succ] <;> rfl) ?_
  refine Lin.take 6 rfl rfl (by go_simp <;> with_reducible rfl) (by simp only [Act.put, List.setIfInBounds_toArray, List.set_cons_zero, List.set_cons_succ] <;> rfl) ?_
  refine Lin.done (hK _ _ ?_)
  clear hK K
  obtain rfl : nA1 = nA2 := HSA1.out.len.symm.trans HSA2.out.len
  have hn6 : nA1 ≤ 6 := by have h1 := HSA1.out.len; have h2 := encL_length HO.out; omega
  have hn6I : ¬ (6 : Int) < nA1 := by omega
  refine wp_seq_k (fun K1 hK1 => ?_)
  refine wp_seq_k (fun K hK => ?_)
  refine Lin.begin ?_
  refine Lin.take 24 rfl rfl (by go_simp <;> with_reducible rfl) (by simp only [Act.put, List.setIfInBounds_toArray, List.set_cons_zero, List.set_cons_succ] <;> rfl) ?_
  refine Lin.take 25 rfl rfl (by go_simp <;> with_reducible rfl) (by simp only [Act.put, List.setIfInBounds_toArray, List.set_cons_zero, List.set_cons_succ] <;> rfl) ?_
  refine Lin.take 26 rfl rfl (by go_simp <;> with_reducible rfl) (by simp only [Act.put, List.setIfInBounds_toArray, List.set_cons_zero, List.set_cons_succ] <;> rfl) ?_
  refine Lin.bool 27 rfl rfl (by go_simp <;> with_reducible rfl) ?_
  intro B27 hB27 aa ha; simp only [Act.put, List.setIfInBounds_toArray, List.set_cons_zero, List.set_cons_succ] at ha; subst ha; replace hB27 := Lib.hid hB27
  refine Lin.may 28 (!B27) (by cases B27 <;> kernel_rfl) rfl (by intro hc; (try simp only [hc, gv_true]); go_simp <;> with_reducible rfl) (by simp only [Act.put, List.setIfInBounds_toArray, List.set_cons_zero, List.set_cons_succ] <;> rfl) ?_
  refine Lin.may 29 (!B27) (by cases B27 <;> kernel_rfl) rfl (by intro hc; (try simp only [hc, gv_true]); go_simp <;> with_reducible rfl) (by simp only [Act.put, List.setIfInBounds_toArray, List.set_cons_zero, List.set_cons_succ] <;> rfl) ?_
  refine Lin.may 30 (!B27) (by cases B27 <;> kernel_rfl) rfl (by intro hc; (try simp only [hc, gv_true]); go_simp <;> with_reducible rfl) (by simp only [Act.put, List.setIfInBounds_toArray, List.set_cons_zero, List.set_cons_succ] <;> rfl) ?_
  refine Lin.may 31 (!B27) (by cases B27 <;> kernel_rfl) rfl (by intro hc; (try simp only [hc, gv_true]); go_simp <;> with_reducible rfl) (by simp only [Act.put, List.setIfInBounds_toArray, List.set_cons_zero, List.set_cons_succ] <;> rfl) ?_
  refine Lin.may 32 (!B27) (by cases B27 <;> kernel_rfl) rfl (by intro hc; (try simp only [hc, gv_true]); go_simp <;> with_reducible rfl) (by simp only [Act.put, List.setIfInBounds_toArray, List.set_cons_zero, List.set_cons_succ] <;> rfl) ?_
  refine Lin.or 33 27 32 rfl rfl rfl rfl rfl ?_
  intro B33 hB33 aa ha; simp only [Act.put, List.setIfInBounds_toArray, List.set_cons_zero, List.set_cons_succ] at ha; subst ha; replace hB33 := Lib.hid hB33
  refine Lin.take 34 rfl rfl (by go_simp <;> with_reducible rfl) (by simp only [Act.put, List.setIfInBounds_toArray, List.set_cons_zero, List.set_cons_succ] <;> rfl) ?_
  refine Lin.may 35 (!B33) (by cases B33 <;> kernel_rfl) rfl (by intro hc; (try simp only [hc, gv_true]); go_simp <;> with_reducible rfl) (by simp only [Act.put, List.setIfInBounds_toArray, List.set_cons_zero, List.set_cons_succ] <;> rfl) ?_
  refine Lin.may 36 (!B33) (by cases B33 <;> kernel_rfl) rfl (by intro hc; (try simp only [hc, gv_true]); go_simp <;> with_reducible rfl) (by simp only [Act.put, List.setIfInBounds_toArray, List.set_cons_zero, List.set_cons_succ] <;> rfl) ?_
  refine Lin.may 37 (!B33) (by cases B33 <;> kernel_rfl) rfl (by intro hc; (try simp only [hc, gv_true]); have hh := hn6I; go_simp <;> with_reducible rfl) (by simp only [Act.put, List.setIfInBounds_toArray, List.set_cons_zero, List.set_cons_succ] <;> rfl) ?_
  refine Lin.or 38 34 37 rfl rfl rfl rfl rfl ?_
  intro B38 hB38 aa ha; simp only [Act.put, List.setIfInBounds_toArray, List.set_cons_zero, List.set_cons_succ] at ha; subst ha; replace hB38 := Lib.hid hB38
  refine Lin.done (hK _ _ ?_)
  have hB : B38 = false := by simp [hB27.out, hB33.out, hB38.out]
  refine wp_cond_false (congrArg Value.bool hB) ?_
  refine wp_skip ?_
  refine hK1 _ _ ?_
  clear hK1 K1 hK K hB
  refine wp_seq_k (fun K9 hK9 => ?_)
  have HK9 := Lib.hid hK9
  have hcapA : nA1 ≤ cA1 := by obtain ⟨vs, h1, _⟩ := HSA1.out; exact h1.cap
  have hcapB : nA1 ≤ cA2 := by obtain ⟨vs, h1, _⟩ := HSA2.out; exact h1.cap
  clear hK9
  go_wp2
  go_loopw [41] (fun iv wr => ∃ i : Nat, iv = .int .i64 (i : Int) ∧ i ≤ nA1 ∧ Hid (Below w4.heap.size w4 wr)) (fun iv _ => nA1 - (intOf iv).toNat)
  case atStart => exact ⟨0, rfl, by omega, Lib.hid (Below.refl _ _)⟩
  case round =>
    obtain ⟨i, rfl, hin, HBW⟩ := hrel
    by_cases hi : i < nA1
    · have hiI : (i : Int) < nA1 := by omega
      have hi0 : (0 : Int) ≤ (i : Int) := by omega
      have hil : i < (encL l).length := by have := HSA1.out.len; omega
      obtain ⟨b, off, a3, n3, c3, haA, hcA, hsA⟩ := HSA1.out.at hil
      obtain ⟨b', off', a5, n5, c5, haB, hcB, hsB⟩ := HSA2.out.at hil
      have CA : Hid (∀ z, Below w4.heap.size w4 z → z.cell? ⟨b, off + i, none⟩ = some (.slice a3 n3 c3)) := Lib.hid fun z hz => below_cell hz (World.block_lt_of_cell? w4 _ hcA) hcA
      have CB : Hid (∀ z, Below w4.heap.size w4 z → z.cell? ⟨b', off' + i, none⟩ = some (.slice a5 n5 c5)) := Lib.hid fun z hz => below_cell hz (World.block_lt_of_cell? w4 _ hcB) hcB
      have SA : Hid (∀ z, Below w4.heap.size w4 z → (convert 35 9 (.slice a3 n3 c3)).run Try.prog z = .ok (.string (strB (encL l)[i])) z) := Lib.hid fun z hz => Sl.run_str (P := Try.prog) (hsA.below hz) 35 5 9 Try.underlying35 Try.underlying5 Try.underlying9
      have SB : Hid (∀ z, Below w4.heap.size w4 z → (convert 35 9 (.slice a5 n5 c5)).run Try.prog z = .ok (.string (strB (encL l)[i])) z) := Lib.hid fun z hz => Sl.run_str (P := Try.prog) (hsB.below hz) 35 5 9 Try.underlying35 Try.underlying5 Try.underlying9
      have h64 : ¬ (64 : Int) < n3 := by have h1 := hsA.len; have h2 := encL_sector HO.out (List.getElem_mem hil); rw [bv_length] at h1; omega
      subst haA haB
      clear hcA hcB hsA hsB
      have HB : Hid (Below w4.heap.size w4 wr.drew) := Lib.hid HBW.out.drew
      have hs : w4.heap.size ≤ wr.drew.heap.size := HB.out.size
      go_wp2
      refine Rest.begin 19 (by kernel_rfl) (by kernel_rfl) ?_
      refine Rest.take 0 44 rfl (by kernel_rfl) (by kernel_rfl) (by kernel_rfl) (fun _ _ _ h => h) (by rfl) (by rfl) (by intro x hx; go_simp <;> with_reducible rfl) (by simp only [Act.put, List.setIfInBounds_toArray, List.set_cons_zero, List.set_cons_succ] <;> rfl) ?_
      refine Rest.take 1 45 rfl (by kernel_rfl) (by kernel_rfl) (by kernel_rfl) (fun _ _ _ h => h) (by rfl) (by rfl) (by intro x hx; go_simp <;> with_reducible rfl) (by simp only [Act.put, List.setIfInBounds_toArray, List.set_cons_zero, List.set_cons_succ] <;> rfl) ?_
      refine Rest.take 2 46 rfl (by kernel_rfl) (by kernel_rfl) (by kernel_rfl) (fun _ _ _ h => h) (by rfl) (by rfl) (by intro x hx; have h1 := hiI; have h2 := hi0; have h3 := hcapA; go_simp <;> with_reducible rfl) (by simp only [Act.put, List.setIfInBounds_toArray, List.set_cons_zero, List.set_cons_succ] <;> rfl) ?_
      refine Rest.take 3 47 rfl (by kernel_rfl) (by kernel_rfl) (by kernel_rfl) (fun _ _ _ h => h) (by rfl) (by rfl) (by intro x hx; have hc := CA.out x (later HB hs hx); go_simp <;> with_reducible rfl) (by simp only [Act.put, List.setIfInBounds_toArray, List.set_cons_zero, List.set_cons_succ] <;> rfl) ?_
      refine Rest.take 4 48 rfl (by kernel_rfl) (by kernel_rfl) (by kernel_rfl) (fun _ _ _ h => h) (by rfl) (by rfl) (by intro x hx; have hc := SA.out x (later HB hs hx); go_simp <;> with_reducible rfl) (by simp only [Act.put, List.setIfInBounds_toArray, List.set_cons_zero, List.set_cons_succ] <;> rfl) ?_
      refine Rest.take 5 49 rfl (by kernel_rfl) (by kernel_rfl) (by kernel_rfl) (fun _ _ _ h => h) (by rfl) (by rfl) (by intro x hx; go_simp <;> with_reducible rfl) (by simp only [Act.put, List.setIfInBounds_toArray, List.set_cons_zero, List.set_cons_succ] <;> rfl) ?_
      refine Rest.take 6 50 rfl (by kernel_rfl) (by kernel_rfl) (by kernel_rfl) (fun _ _ _ h => h) (by rfl) (by rfl) (by intro x hx; go_simp <;> with_reducible rfl) (by simp only [Act.put, List.setIfInBounds_toArray, List.set_cons_zero, List.set_cons_succ] <;> rfl) ?_
      refine Rest.take 7 51 rfl (by kernel_rfl) (by kernel_rfl) (by kernel_rfl) (fun _ _ _ h => h) (by rfl) (by rfl) (by intro x hx; have h1 := hiI; have h2 := hi0; have h3 := hcapB; go_simp <;> with_reducible rfl) (by simp only [Act.put, List.setIfInBounds_toArray, List.set_cons_zero, List.set_cons_succ] <;> rfl) ?_
      refine Rest.take 8 52 rfl (by kernel_rfl) (by kernel_rfl) (by kernel_rfl) (fun _ _ _ h => h) (by rfl) (by rfl) (by intro x hx; have hc := CB.out x (later HB hs hx); go_simp <;> with_reducible rfl) (by simp only [Act.put, List.setIfInBounds_toArray, List.set_cons_zero, List.set_cons_succ] <;> rfl) ?_
      refine Rest.take 9 53 rfl (by kernel_rfl) (by kernel_rfl) (by kernel_rfl) (fun _ _ _ h => h) (by rfl) (by rfl) (by intro x hx; have hc := SB.out x (later HB hs hx); go_simp <;> with_reducible rfl) (by simp only [Act.put, List.setIfInBounds_toArray, List.set_cons_zero, List.set_cons_succ] <;> rfl) ?_
      refine Rest.take 10 54 rfl (by kernel_rfl) (by kernel_rfl) (by kernel_rfl) (fun _ _ _ h => h) (by rfl) (by rfl) (by intro x hx; go_simp <;> with_reducible rfl) (by simp only [Act.put, List.setIfInBounds_toArray, List.set_cons_zero, List.set_cons_succ] <;> rfl) ?_
      refine Rest.take 11 55 rfl (by kernel_rfl) (by kernel_rfl) (by kernel_rfl) (fun _ _ _ h => h) (by rfl) (by rfl) (by intro x hx; go_simp <;> with_reducible rfl) (by simp only [Act.put, List.setIfInBounds_toArray, List.set_cons_zero, List.set_cons_succ] <;> rfl) ?_
      refine Rest.take 12 56 rfl (by kernel_rfl) (by kernel_rfl) (by kernel_rfl) (fun _ _ _ h => h) (by rfl) (by rfl) (by intro x hx; go_simp <;> with_reducible rfl) (by simp only [Act.put, List.setIfInBounds_toArray, List.set_cons_zero, List.set_cons_succ] <;> rfl) ?_
      refine Rest.take 13 57 rfl (by kernel_rfl) (by kernel_rfl) (by kernel_rfl) (fun _ _ _ h => h) (by rfl) (by rfl) (by intro x hx; go_simp <;> with_reducible rfl) (by simp only [Act.put, List.setIfInBounds_toArray, List.set_cons_zero, List.set_cons_succ] <;> rfl) ?_
      refine Rest.take 14 58 rfl (by kernel_rfl) (by kernel_rfl) (by kernel_rfl) (fun _ _ _ h => h) (by rfl) (by rfl) (by intro x hx; have h1 := hiI; have h2 := hi0; have h3 := hcapA; go_simp <;> with_reducible rfl) (by simp only [Act.put, List.setIfInBounds_toArray, List.set_cons_zero, List.set_cons_succ] <;> rfl) ?_
      refine Rest.take 15 59 rfl (by kernel_rfl) (by kernel_rfl) (by kernel_rfl) (fun _ _ _ h => h) (by rfl) (by rfl) (by intro x hx; have hc := CA.out x (later HB hs hx); go_simp <;> with_reducible rfl) (by simp only [Act.put, List.setIfInBounds_toArray, List.set_cons_zero, List.set_cons_succ] <;> rfl) ?_
      refine Rest.take 16 60 rfl (by kernel_rfl) (by kernel_rfl) (by kernel_rfl) (fun _ _ _ h => h) (by rfl) (by rfl) (by intro x hx; go_simp <;> with_reducible rfl) (by simp only [Act.put, List.setIfInBounds_toArray, List.set_cons_zero, List.set_cons_succ] <;> rfl) ?_
      refine Rest.take 17 61 rfl (by kernel_rfl) (by kernel_rfl) (by kernel_rfl) (fun _ _ _ h => h) (by rfl) (by rfl) (by intro x hx; have hh := h64; go_simp <;> with_reducible rfl) (by simp only [Act.put, List.setIfInBounds_toArray, List.set_cons_zero, List.set_cons_succ] <;> rfl) ?_
      refine Rest.take 18 62 rfl (by kernel_rfl) (by kernel_rfl) (by kernel_rfl) (fun _ _ _ h => h) (by rfl) (by rfl) (by intro x hx; go_simp <;> with_reducible rfl) (by simp only [Act.put, List.setIfInBounds_toArray, List.set_cons_zero, List.set_cons_succ] <;> rfl) ?_
      refine Rest.done (by kernel_rfl) ?_
      go_wp2
      go_roundw
      case rel => exact ⟨i + 1, by go_num, by omega, HB⟩
      case measure => simp [intOf]; omega
    · have hiI : ¬ (i : Int) < nA1 := by omega
      obtain rfl : nA1 = i := by omega
      go_wp2
      refine HK9.out _ _ ?_
      go_wp2
      go_ret
      exact ⟨rfl, HB4.out.trans (HBW.out.mono HB4.out.size)⟩

end Go.Proofs.Ytjjknjkpkoeelaa
