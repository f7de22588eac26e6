/- ElectionCount: for every list of places the law returns true. (Printed by el12.py.) -/
import Derived.Test.YtgpfjinkmagelaaElL
import Derived.Test.YtgpfjinkmagelaaMay
set_option linter.unusedVariables false
set_option linter.unusedSimpArgs false
namespace Go.Proofs.Ytgpfjinkmagelaa
open Go Go.RowKit Go.Lib

set_option maxRecDepth 100000 in
set_option maxHeartbeats 1600000 in
theorem electionCount_walk (a : Option Addr) (n c : Nat) (zs : List Int) (w : World) (h : Sl w 1 a n c (zc zs)) :
    Calls Try.prog 8 #[.slice a n c] w fun e w' => e = .returned (.bool true) ∧ Below w.heap.size w w' := by
  have hlen : zs.length = n := by have := h.len; rw [zc_length] at this; omega
  have HS := Lib.hid h
  have HLN := Lib.hid hlen
  clear h hlen
  go_enter Try.func8, Try.ntmps8
  refine wp_seq_k (fun K hK => ?_)
  refine Lin.begin ?_
  refine Lin.take 2 rfl rfl (by go_simp <;> with_reducible rfl) (by simp only [Act.put, List.setIfInBounds_toArray, List.set_cons_zero, List.set_cons_succ] <;> rfl) ?_
  refine Lin.done (hK _ _ ?_)
  clear hK K
  refine wp_seq_k (fun K1 hK1 => ?_)
  refine wp_seq_k (fun K hK => ?_)
  refine Lin.begin ?_
  refine Lin.enter 6 rfl rfl (by go_simp <;> (first | exact ⟨rfl, rfl⟩ | rfl)) (awake31_any w) (by simp only [Act.put, List.setIfInBounds_toArray, List.set_cons_zero, List.set_cons_succ] <;> rfl) ?_
  intro w1 hb1
  have HB1 := Lib.hid hb1
  clear hb1
  refine Lin.take 7 rfl rfl (by go_simp <;> with_reducible rfl) (by simp only [Act.put, List.setIfInBounds_toArray, List.set_cons_zero, List.set_cons_succ] <;> rfl) ?_
  refine Lin.done (hK _ _ ?_)
  refine wp_cond_false rfl ?_
  refine wp_skip ?_
  refine hK1 _ _ ?_
  clear hK1 K1 hK K
  have HS1 := Lib.hid (HS.out.below HB1.out)
  refine wp_seq_k (fun K1 hK1 => ?_)
  refine wp_seq_k (fun K hK => ?_)
  refine Lin.begin ?_
  refine Lin.take 8 rfl rfl (by go_simp <;> with_reducible rfl) (by simp only [Act.put, List.setIfInBounds_toArray, List.set_cons_zero, List.set_cons_succ] <;> rfl) ?_
  refine Lin.take 9 rfl rfl (by go_simp <;> with_reducible rfl) (by simp only [Act.put, List.setIfInBounds_toArray, List.set_cons_zero, List.set_cons_succ] <;> rfl) ?_
  refine Lin.bool 10 rfl rfl (by go_simp <;> with_reducible rfl) ?_
  intro B10 hB10 aa ha; simp only [Act.put, List.setIfInBounds_toArray, List.set_cons_zero, List.set_cons_succ] at ha; subst ha
  refine Lin.done (hK _ _ ?_)
  refine wp_cond_split rfl (fun ht => ?_) (fun hf => ?_)
  ·
    refine wp_seq_k (fun KE hKE => ?_)
    refine Lin.begin ?_
    refine Lin.take 2 (v := .bool true) rfl rfl (by go_simp <;> with_reducible rfl) (by simp only [Act.put, List.setIfInBounds_toArray, List.set_cons_zero, List.set_cons_succ] <;> rfl) ?_
    refine Lin.done (hKE _ _ ?_)
    refine wp_ret ?_
    (try simp only [Exit.then])
    refine bodyPost_ret (results_tmp rfl _ _ _) rfl ?_
    exact ⟨rfl, HB1.out⟩
  have hn2 : n ≤ 200 := by
    rw [hB10] at hf
    simp at hf
    omega
  have hz5 : zs.length ≤ 100000 := by have := HLN.out; omega
  clear hf hB10
  refine wp_skip ?_
  refine hK1 _ _ ?_
  clear hK1 K1 hK K
  refine wp_seq_k (fun K hK => ?_)
  refine Lin.begin ?_
  refine Lin.take 11 rfl rfl (by go_simp <;> with_reducible rfl) (by simp only [Act.put, List.setIfInBounds_toArray, List.set_cons_zero, List.set_cons_succ] <;> rfl) ?_
  refine Lin.enterS 12 rfl rfl (by go_simp <;> (first | exact ⟨rfl, rfl⟩ | rfl)) (out_any zs a n c w1 HS1.out hz5) ?_
  rintro ax nx cx w2 ⟨hsx, hb2⟩ aa ha; simp only [Act.put, List.setIfInBounds_toArray, List.set_cons_zero, List.set_cons_succ] at ha; subst ha
  have HB2 := Lib.hid (HB1.out.trans (hb2.mono HB1.out.size)); have HX2 := Lib.hid hsx; have HS2 := Lib.hid (HS1.out.below hb2)
  clear hsx hb2
  refine Lin.take 13 rfl rfl (by go_simp <;> with_reducible rfl) (by simp only [Act.put, List.setIfInBounds_toArray, List.set_cons_zero, List.set_cons_succ] <;> rfl) ?_
  refine Lin.enterS 14 rfl rfl (by go_simp <;> (first | exact ⟨rfl, rfl⟩ | rfl)) (refOut_any zs a n c w2 HS2.out hz5) ?_
  rintro ay ny cy w3 ⟨hsy, hb3⟩ aa ha; simp only [Act.put, List.setIfInBounds_toArray, List.set_cons_zero, List.set_cons_succ] at ha; subst ha
  have HB3 := Lib.hid (HB2.out.trans (hb3.mono HB2.out.size)); have HX3 := Lib.hid (HX2.out.below hb3); have HY3 := Lib.hid hsy; have HS3 := Lib.hid (HS2.out.below hb3)
  clear hsy hb3
  refine Lin.take 3 rfl rfl (by go_simp <;> with_reducible rfl) (by simp only [Act.put, List.setIfInBounds_toArray, List.set_cons_zero, List.set_cons_succ] <;> rfl) ?_
  refine Lin.take 4 rfl rfl (by go_simp <;> with_reducible rfl) (by simp only [Act.put, List.setIfInBounds_toArray, List.set_cons_zero, List.set_cons_succ] <;> rfl) ?_
  refine Lin.done (hK _ _ ?_)
  clear hK K
  have hnx : n = nx := by have := HX3.out.len; rw [bb_length] at this; unfold outsL at this; rw [List.length_map] at this; have := HLN.out; omega
  have hny : n = ny := by have := HY3.out.len; rw [bb_length] at this; unfold outsL at this; rw [List.length_map] at this; have := HLN.out; omega
  subst hnx
  subst hny
  refine wp_seq_k (fun K1 hK1 => ?_)
  refine wp_seq_k (fun K hK => ?_)
  refine Lin.begin ?_
  refine Lin.take 15 rfl rfl (by go_simp <;> with_reducible rfl) (by simp only [Act.put, List.setIfInBounds_toArray, List.set_cons_zero, List.set_cons_succ] <;> rfl) ?_
  refine Lin.take 16 rfl rfl (by go_simp <;> with_reducible rfl) (by simp only [Act.put, List.setIfInBounds_toArray, List.set_cons_zero, List.set_cons_succ] <;> rfl) ?_
  refine Lin.take 17 rfl rfl (by go_simp <;> with_reducible rfl) (by simp only [Act.put, List.setIfInBounds_toArray, List.set_cons_zero, List.set_cons_succ] <;> rfl) ?_
  refine Lin.take 18 rfl rfl (by go_simp <;> with_reducible rfl) (by simp only [Act.put, List.setIfInBounds_toArray, List.set_cons_zero, List.set_cons_succ] <;> rfl) ?_
  refine Lin.take 19 rfl rfl (by go_simp <;> with_reducible rfl) (by simp only [Act.put, List.setIfInBounds_toArray, List.set_cons_zero, List.set_cons_succ] <;> rfl) ?_
  refine Lin.bool 20 (x := false) rfl rfl (by go_simp <;> (first | rfl | simp)) ?_
  intro B20 hB20 aa ha; simp only [Act.put, List.setIfInBounds_toArray, List.set_cons_zero, List.set_cons_succ] at ha; subst ha
  subst hB20
  refine Lin.may 21 true (v := .slice a n c) (by kernel_rfl) rfl (by intro hc; go_simp <;> with_reducible rfl) (by simp only [Act.put, List.setIfInBounds_toArray, List.set_cons_zero, List.set_cons_succ] <;> rfl) ?_
  refine Lin.mayEnter 22 true (v := .int .i64 (negs zs : Int)) (S := Below w3.heap.size w3) (by kernel_rfl) rfl (by intro hc; simp only [gv_true]; go_simp <;> (first | exact ⟨rfl, rfl⟩ | rfl)) (fun hc => count_any zs a n c w3 HS3.out (by omega)) (fun _ => Below.refl _ _) (by simp only [Act.put, List.setIfInBounds_toArray, List.set_cons_zero, List.set_cons_succ] <;> rfl) ?_
  intro w4 hb4
  have HB4 := Lib.hid (HB3.out.trans (hb4.mono HB3.out.size)); have HX4 := Lib.hid (HX3.out.below hb4); have HY4 := Lib.hid (HY3.out.below hb4); have HS4 := Lib.hid (HS3.out.below hb4)
  clear hb4
  refine Lin.may 23 true (v := .slice a n c) (by kernel_rfl) rfl (by intro hc; go_simp <;> with_reducible rfl) (by simp only [Act.put, List.setIfInBounds_toArray, List.set_cons_zero, List.set_cons_succ] <;> rfl) ?_
  refine Lin.mayEnter 24 true (v := .int .i64 (negs zs : Int)) (S := Below w4.heap.size w4) (by kernel_rfl) rfl (by intro hc; simp only [gv_true]; go_simp <;> (first | exact ⟨rfl, rfl⟩ | rfl)) (fun hc => refCount_any zs a n c w4 HS4.out (by omega)) (fun _ => Below.refl _ _) (by simp only [Act.put, List.setIfInBounds_toArray, List.set_cons_zero, List.set_cons_succ] <;> rfl) ?_
  intro w5 hb5
  have HB5 := Lib.hid (HB4.out.trans (hb5.mono HB4.out.size)); have HX5 := Lib.hid (HX4.out.below hb5); have HY5 := Lib.hid (HY4.out.below hb5)
  clear hb5
  refine Lin.may 25 true (v := .bool false) (by kernel_rfl) rfl (by intro hc; simp only [gv_true]; go_simp <;> (first | rfl | simp)) (by simp only [Act.put, List.setIfInBounds_toArray, List.set_cons_zero, List.set_cons_succ] <;> rfl) ?_
  refine Lin.take 26 (v := .bool false) rfl rfl (by simp only [gv_true]; go_simp <;> with_reducible rfl) (by simp only [Act.put, List.setIfInBounds_toArray, List.set_cons_zero, List.set_cons_succ] <;> rfl) ?_
  refine Lin.done (hK _ _ ?_)
  refine wp_cond_false rfl ?_
  refine wp_skip ?_
  refine hK1 _ _ ?_
  clear hK1 K1 hK K
  have hcapX := HX5.out.cap
  have hcapY := HY5.out.cap
  have HOL : Hid ((outsL zs).length = n) := by unfold outsL; rw [List.length_map]; exact HLN
  generalize gv true _ = u0
  go_wp2
  go_loopw [29] (fun iv wr => ∃ i : Nat, iv = .int .i64 (i : Int) ∧ i ≤ n ∧ Hid (Below w5.heap.size w5 wr)) (fun iv _ => n - (intOf iv).toNat)
  case atStart => exact ⟨0, rfl, by omega, Lib.hid (Below.refl _ _)⟩
  case round =>
  obtain ⟨i, rfl, hin, HBW⟩ := hrel
  by_cases hi : i < n
  · have hiI : (i : Int) < n := by omega
    have hi0 : (0 : Int) ≤ (i : Int) := by omega
    have hil : i < (outsL zs).length := by have := HOL.out; omega
    obtain ⟨bX, oX, haX, hcellX⟩ := (HX5.out.below HBW.out).at (k := i) (by rw [bb_length]; exact hil)
    have hcX := hcellX i (by rw [bb_length]; exact hil)
    obtain ⟨bY, oY, haY, hcellY⟩ := (HY5.out.below HBW.out).at (k := i) (by rw [bb_length]; exact hil)
    have hcY := hcellY i (by rw [bb_length]; exact hil)
    simp only [bb, List.getElem_map] at hcX hcY
    obtain ⟨v, hv⟩ : ∃ v, v = (outsL zs)[i] := ⟨_, rfl⟩
    rw [← hv] at hcX hcY
    have CX : Hid (∀ z, Below wr.heap.size wr z → z.cell? ⟨bX, oX + i, none⟩ = some (.bool v)) := Lib.hid fun z hz => below_cell hz (World.block_lt_of_cell? wr _ hcX) hcX
    have CY : Hid (∀ z, Below wr.heap.size wr z → z.cell? ⟨bY, oY + i, none⟩ = some (.bool v)) := Lib.hid fun z hz => below_cell hz (World.block_lt_of_cell? wr _ hcY) hcY
    subst haX haY
    clear hv hcX hcY hcellX hcellY
    have HB := Lib.hid (show Below wr.heap.size wr wr.drew from (Below.refl _ _).drew)
    have hs : wr.heap.size ≤ wr.drew.heap.size := Nat.le_refl _
    go_wp2
    refine Rest.begin 9 (by kernel_rfl) (by kernel_rfl) ?_
    refine Rest.take 0 32 rfl (by kernel_rfl) (by kernel_rfl) (by kernel_rfl) (fun _ _ _ h => h) (by rfl) (by rfl) (by intro x hx; go_simp <;> with_reducible rfl) (by simp only [Act.put, List.setIfInBounds_toArray, List.set_cons_zero, List.set_cons_succ] <;> rfl) ?_
    refine Rest.take 1 33 rfl (by kernel_rfl) (by kernel_rfl) (by kernel_rfl) (fun _ _ _ h => h) (by rfl) (by rfl) (by intro x hx; go_simp <;> with_reducible rfl) (by simp only [Act.put, List.setIfInBounds_toArray, List.set_cons_zero, List.set_cons_succ] <;> rfl) ?_
    refine Rest.take 2 34 (v := .pointer (some ⟨bX, oX + i, none⟩)) rfl (by kernel_rfl) (by kernel_rfl) (by kernel_rfl) (fun _ _ _ h => h) (by rfl) (by rfl) (by intro x hx; have h1 := hiI; have h2 := hi0; have h3 := hcapX; go_simp <;> with_reducible rfl) (by simp only [Act.put, List.setIfInBounds_toArray, List.set_cons_zero, List.set_cons_succ] <;> rfl) ?_
    refine Rest.take 3 35 rfl (by kernel_rfl) (by kernel_rfl) (by kernel_rfl) (fun _ _ _ h => h) (by rfl) (by rfl) (by intro x hx; have hc := CX.out x (later HB hs hx); go_simp <;> with_reducible rfl) (by simp only [Act.put, List.setIfInBounds_toArray, List.set_cons_zero, List.set_cons_succ] <;> rfl) ?_
    refine Rest.take 4 36 rfl (by kernel_rfl) (by kernel_rfl) (by kernel_rfl) (fun _ _ _ h => h) (by rfl) (by rfl) (by intro x hx; go_simp <;> with_reducible rfl) (by simp only [Act.put, List.setIfInBounds_toArray, List.set_cons_zero, List.set_cons_succ] <;> rfl) ?_
    refine Rest.take 5 37 rfl (by kernel_rfl) (by kernel_rfl) (by kernel_rfl) (fun _ _ _ h => h) (by rfl) (by rfl) (by intro x hx; go_simp <;> with_reducible rfl) (by simp only [Act.put, List.setIfInBounds_toArray, List.set_cons_zero, List.set_cons_succ] <;> rfl) ?_
    refine Rest.take 6 38 (v := .pointer (some ⟨bY, oY + i, none⟩)) rfl (by kernel_rfl) (by kernel_rfl) (by kernel_rfl) (fun _ _ _ h => h) (by rfl) (by rfl) (by intro x hx; have h1 := hiI; have h2 := hi0; have h3 := hcapY; go_simp <;> with_reducible rfl) (by simp only [Act.put, List.setIfInBounds_toArray, List.set_cons_zero, List.set_cons_succ] <;> rfl) ?_
    refine Rest.take 7 39 rfl (by kernel_rfl) (by kernel_rfl) (by kernel_rfl) (fun _ _ _ h => h) (by rfl) (by rfl) (by intro x hx; have hc := CY.out x (later HB hs hx); go_simp <;> with_reducible rfl) (by simp only [Act.put, List.setIfInBounds_toArray, List.set_cons_zero, List.set_cons_succ] <;> rfl) ?_
    refine Rest.take 8 40 (v := .bool false) rfl (by kernel_rfl) (by kernel_rfl) (by kernel_rfl) (fun _ _ _ h => h) (by rfl) (by rfl) (by intro x hx; go_simp <;> (first | with_reducible rfl | simp)) (by simp only [Act.put, List.setIfInBounds_toArray, List.set_cons_zero, List.set_cons_succ] <;> rfl) ?_
    refine Rest.done (by kernel_rfl) ?_
    go_wp2
    go_roundw
    case rel => exact ⟨i + 1, by go_num, by omega, Lib.hid (HBW.out.trans (HB.out.mono HBW.out.size))⟩
    case measure => simp [intOf]; omega
  · have hiI : ¬ (i : Int) < n := by omega
    obtain rfl : n = i := by omega
    go_wp2
    go_ret
    exact ⟨rfl, HB5.out.trans (HBW.out.mono HB5.out.size)⟩

end Go.Proofs.Ytgpfjinkmagelaa
