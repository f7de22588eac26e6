/- Labels: label.Encode. (Printed by enc.py.) -/
import Derived.Test.YtjjknjkpkoeelaaPayl2
import Derived.Test.YtjjknjkpkoeelaaChunk2
set_option linter.unusedVariables false
set_option linter.unusedSimpArgs false
namespace Go.Proofs.Ytjjknjkpkoeelaa
open Go Go.RowKit Go.Lib

set_option maxRecDepth 100000 in
set_option maxHeartbeats 3200000 in
theorem encode_any (l : Lb) (ad : Option Addr) (nd c : Nat) (w : World) (h : Sl w 1 ad nd c (bb l.dead)) (hok : l.ok) :
    Calls Try.prog 11 #[l.agg ad nd c] w fun e w' => ∃ a n c, e = .returned (.tuple #[.slice a n c, .int .i64 (if l.valid then 0 else 1)]) ∧ Sls w' a n c (encL l) ∧ Below w.heap.size w w' := by
  have HO := Lib.hid hok
  have HH := Lib.hid h
  clear h hok
  unfold Lb.agg
  go_enter Try.func11, Try.ntmps11
  refine wp_seq_k (fun K hK => ?_)
  refine Lin.begin ?_
  refine Lin.takeW 1 rfl rfl (by go_simp; exact ⟨rfl, rfl⟩) (by simp only [Act.put, List.setIfInBounds_toArray, List.set_cons_zero, List.set_cons_succ] <;> rfl) ?_
  intro w1 hw1
  obtain ⟨g, hg⟩ : ∃ g, g = w.heap.size := ⟨_, rfl⟩
  have L1 : Hid (LbAt l ad nd c g w1) := by rw [hw1, hg]; exact Lib.hid (LbAt.new l ad nd c 29 w)
  have HB1 : Hid (Below w.heap.size w w1) := by rw [hw1]; exact Lib.hid ((Below.refl w.heap.size w).alloc (Nat.le_refl _) _)
  have hz1 : w.heap.size ≤ w1.heap.size := HB1.out.size
  have hg1 : g < w1.heap.size := by rw [hw1, hg]; simp
  rw [← hg]
  have HG := Lib.hid hg
  obtain ⟨V, hV⟩ : ∃ V, V = decide l.valid := ⟨_, rfl⟩
  have HVB := Lib.hid hV
  clear hw1 hg hV
  refine Lin.take 2 rfl rfl (by go_simp <;> with_reducible rfl) (by simp only [Act.put, List.setIfInBounds_toArray, List.set_cons_zero, List.set_cons_succ] <;> rfl) ?_
  refine Lin.take 3 rfl rfl (by go_simp <;> with_reducible rfl) (by simp only [Act.put, List.setIfInBounds_toArray, List.set_cons_zero, List.set_cons_succ] <;> rfl) ?_
  refine Lin.done (hK _ _ ?_)
  clear hK K
  refine wp_seq_k (fun K1 hK1 => ?_)
  refine wp_seq_k (fun K hK => ?_)
  refine Lin.begin ?_
  refine Lin.mid 9 true 29 _ g 0 (l.arrv ad nd c).toList _ (by kernel_rfl) rfl rfl (fun _ => rfl) L1.out.range Try.underlying29 rfl (by kernel_rfl) (by simp only [Act.put, List.setIfInBounds_toArray, List.set_cons_zero, List.set_cons_succ] <;> rfl) ?_
  refine Lin.enter 10 rfl rfl (by simp only [gv_true]; go_simp <;> (first | exact ⟨rfl, rfl⟩ | rfl)) (v := .bool V) (by rw [HVB.out]; exact valid_any l ad nd c _ (HH.out.below HB1.out) HO.out) (by simp only [Act.put, List.setIfInBounds_toArray, List.set_cons_zero, List.set_cons_succ] <;> rfl) ?_
  intro w2 hb2
  have HB2 := Lib.hid (HB1.out.trans (hb2.mono hz1)); have L2 := Lib.hid (L1.out.below hb2 hg1); have hg2 : g < w2.heap.size := Nat.lt_of_lt_of_le hg1 hb2.size
  clear hb2
  refine Lin.take 11 (v := .bool (!V)) rfl rfl (by go_simp <;> with_reducible rfl) (by simp only [Act.put, List.setIfInBounds_toArray, List.set_cons_zero, List.set_cons_succ] <;> rfl) ?_
  refine Lin.done (hK _ _ ?_)
  refine wp_cond_split rfl (fun ht => ?_) (fun hf => ?_)
  · refine wp_seq_k (fun K2 hK2 => ?_)
    refine Lin.begin ?_
    refine Lin.take 2 rfl rfl (by go_simp <;> with_reducible rfl) (by simp only [Act.put, List.setIfInBounds_toArray, List.set_cons_zero, List.set_cons_succ] <;> rfl) ?_
    refine Lin.take 3 rfl rfl (by go_simp <;> with_reducible rfl) (by simp only [Act.put, List.setIfInBounds_toArray, List.set_cons_zero, List.set_cons_succ] <;> rfl) ?_
    refine Lin.done (hK2 _ _ ?_)
    refine wp_ret ?_
    simp only [Exit.then]
    refine bodyPost_ret (results_tmp2 rfl _ _ _) rfl ?_
    have hnv : ¬ l.valid := by
      rw [HVB.out] at ht
      simpa using ht
    refine ⟨none, 0, 0, ?_, ?_, HB2.out⟩
    · rw [if_neg hnv]; rfl
    · unfold encL
      rw [if_neg hnv]
      exact ⟨[], Sl.nilv _ _, rfl, fun i m hm => by simp at hm⟩
  have HV : Hid l.valid := by
    rw [HVB.out] at hf
    exact Lib.hid (by simpa using hf)
  clear hf HVB
  refine wp_skip ?_
  refine hK1 _ _ ?_
  clear hK1 K1 hK K
  refine wp_seq_k (fun K3 hK3 => ?_)
  refine Lin.begin ?_
  refine Lin.mid 12 true 29 _ g 0 (l.arrv ad nd c).toList _ (by kernel_rfl) rfl rfl (fun _ => rfl) L2.out.range Try.underlying29 rfl (by kernel_rfl) (by simp only [Act.put, List.setIfInBounds_toArray, List.set_cons_zero, List.set_cons_succ] <;> rfl) ?_
  refine Lin.enterS 13 rfl rfl (by simp only [gv_true]; go_simp <;> (first | exact ⟨rfl, rfl⟩ | rfl)) (payload_any l ad nd c _ (HH.out.below HB2.out) HO.out HV.out) ?_
  rintro a3 n3 c3 w3 ⟨hs3, hb3⟩ aa ha; simp only [Act.put, List.setIfInBounds_toArray, List.set_cons_zero, List.set_cons_succ] at ha; subst ha
  have HB3 := Lib.hid (HB2.out.trans (hb3.mono HB2.out.size)); have L3 := Lib.hid (L2.out.below hb3 hg2); have hg3 : g < w3.heap.size := Nat.lt_of_lt_of_le hg2 hb3.size
  have hn3 : n3 = (payloadL l).length := by have := hs3.len; rw [bv_length] at this; omega
  have hpp := payloadL_pos l
  obtain ⟨b, off, rfl, -⟩ := hs3.at (k := 0) (by rw [bv_length]; omega)
  have HS3 := Lib.hid hs3
  have HN3 := Lib.hid hn3
  clear hb3 hs3 hn3 hpp
  refine Lin.enter 14 rfl rfl (by go_simp <;> (first | exact ⟨rfl, rfl⟩ | rfl)) (S := fun w4 => w4 = (w3.alloc (.cells #[.slice (some ⟨b, off, none⟩) n3 c3] 35)).alloc (.cells #[.int .i64 28] 3)) (chunk_any _ n3 c3 w3) (by simp only [Act.put, List.setIfInBounds_toArray, List.set_cons_zero, List.set_cons_succ] <;> rfl) ?_
  intro w4 hw4
  have hb4 : Below w3.heap.size w3 w4 := by rw [hw4]; exact ((Below.refl _ w3).alloc (Nat.le_refl _) _).alloc (by simp) _
  have hx4 : w4.cell? ⟨w3.heap.size, 0, none⟩ = some (.slice (some ⟨b, off, none⟩) n3 c3) := by rw [hw4]; exact below_cell ((Below.refl _ _).alloc (Nat.le_refl _) _) (by simp) (by rw [cell_of_row _ _ _ _ _ _ (heap_alloc_new w3 _)]; rfl)
  have hy4 : w4.cell? ⟨w3.heap.size + 1, 0, none⟩ = some (.int .i64 28) := by
    have := heap_alloc_new (w3.alloc (.cells #[.slice (some ⟨b, off, none⟩) n3 c3] 35)) (.cells #[.int .i64 28] 3)
    rw [World.size_alloc] at this
    rw [hw4, cell_of_row _ _ _ _ _ _ this]; rfl
  have hz4 : w3.heap.size + 2 ≤ w4.heap.size := by rw [hw4]; simp
  have HB4 := Lib.hid (HB3.out.trans (hb4.mono HB3.out.size)); have L4 := Lib.hid (L3.out.below hb4 hg3); have hg4 : g < w4.heap.size := by omega
  have HS4 := Lib.hid (HS3.out.below hb4)
  obtain ⟨B1, hB1⟩ : ∃ q, q = w3.heap.size := ⟨_, rfl⟩
  obtain ⟨B2, hB2⟩ : ∃ q, q = w3.heap.size + 1 := ⟨_, rfl⟩
  rw [← hB1] at hx4
  rw [← hB2] at hy4
  rw [← hB2, ← hB1]
  have HX4 := Lib.hid hx4
  have HY4 := Lib.hid hy4
  have hq1 : B1 < w4.heap.size := by omega
  have hq2 : B2 < w4.heap.size := by omega
  clear hw4 hb4 hx4 hy4 hB1 hB2
  refine Lin.enterS 15 rfl rfl (by go_simp <;> (first | exact ⟨rfl, rfl⟩ | rfl)) (collect_any B1 B2 b off n3 c3 HS4.out.cap (by have h1 := HN3.out; have h2 := payloadL_length HO.out HV.out; omega) w4 hq1 hq2 HX4.out HY4.out) ?_
  rintro a5 n5 c5 w5 ⟨hn5, hs5, hb5⟩ aa ha; simp only [Act.put, List.setIfInBounds_toArray, List.set_cons_zero, List.set_cons_succ] at ha; subst ha
  have HB5 := Lib.hid (HB4.out.trans (hb5.mono HB4.out.size)); have L5 := Lib.hid (L4.out.below hb5 hg4); have hg5 : g < w5.heap.size := Nat.lt_of_lt_of_le hg4 hb5.size
  have HP5 := Lib.hid (HS4.out.below hb5)
  have HC5 := Lib.hid hs5
  have HN5 : Hid (n5 = partsN (payloadL l)) := Lib.hid (by rw [hn5, HN3.out]; rfl)
  clear hb5 hs5 hn5
  refine Lin.take 4 rfl rfl (by go_simp <;> with_reducible rfl) (by simp only [Act.put, List.setIfInBounds_toArray, List.set_cons_zero, List.set_cons_succ] <;> rfl) ?_
  refine Lin.done (hK3 _ _ ?_)
  clear HS3 HS4 HX4 HY4 L1 L2 L3 L4 HB1 HB2 HB3 HB4
  refine wp_seq_k (fun K4 hK4 => ?_)
  refine Lin.begin ?_
  refine Lin.take 5 rfl rfl (by go_simp <;> with_reducible rfl) (by simp only [Act.put, List.setIfInBounds_toArray, List.set_cons_zero, List.set_cons_succ] <;> rfl) ?_
  refine Lin.done (hK4 _ _ ?_)
  refine wp_seq_k (fun K5 hK5 => ?_)
  have HK5 := Lib.hid hK5
  have hcap5 := HC5.out.cap
  have hn6 : n5 ≤ 1000 := by have h1 := HN5.out; have h2 := payloadL_length HO.out HV.out; unfold partsN at h1; omega
  have hn6I : (n5 : Int) ≤ 1000 := by omega
  clear hK5
  go_wp2
  go_loopw [5, 18] (fun bvv iv wr => ∃ (i : Nat) (a1 : Option Addr) (c1 : Nat), iv = .int .i64 (i : Int) ∧ i ≤ n5 ∧ bvv = .slice a1 i c1 ∧ Hid (Gat wr w5.heap.size (.slice a1 i c1) ((cutL l.gen.toNat l.dk.toNat (payloadL l)).take i)) ∧ Hid (Below w5.heap.size w5 wr)) (fun _ iv _ => n5 - (intOf iv).toNat)
  case atStart => exact ⟨0, none, 0, rfl, by omega, rfl, Lib.hid (Gat.nil _ _), Lib.hid (Below.refl _ _)⟩
  case round =>
    obtain ⟨i, a1, c1, rfl, hin, rfl, HG, HW⟩ := hrel
    by_cases hi : i < n5
    · have hiI : (i : Int) < n5 := by omega
      have hi0 : (0 : Int) ≤ (i : Int) := by omega
      have LW := Lib.hid (L5.out.below HW.out hg5)
      have hgw : g < wr.heap.size := Nat.lt_of_lt_of_le hg5 HW.out.size
      have hpl : n3 = (payloadL l).length := HN3.out
      have h28 : 28 * i < n3 := by have h1 := HN5.out; unfold partsN at h1; omega
      have hchr := chv_reads HP5.out i h28
      have hclen : ((chs b off n3 ((n3 + 27) / 28)).map svv).length = n5 := by have := HC5.out.len; omega
      obtain ⟨bC, oC, haC, hcell⟩ := (HC5.out.below HW.out).at (k := i) (by omega)
      have hcc := hcell i (by omega)
      simp only [chs, List.getElem_map, List.getElem_range, svv] at hcc
      obtain ⟨⟨aP, nP, cP⟩, hPq⟩ : ∃ x : SV, x = chv b off n3 i := ⟨_, rfl⟩
      rw [← hPq] at hchr hcc
      have HCH := Lib.hid hchr
      have HCELL := Lib.hid hcc
      subst haC
      have hnl := numsL_length (ns := [l.gen.toNat, l.dk.toNat, i, n5]) (by have h1 := HV.out.2.2.1; have h2 : l.cd ≤ 60 := HV.out.1.2.1; have h3 := HO.out.gen1; intro x hx; simp only [List.mem_cons, List.not_mem_nil, or_false] at hx; rcases hx with rfl | rfl | rfl | rfl <;> omega)
      have HLN : Hid (([76] ++ numsL [l.gen.toNat, l.dk.toNat, i, n5]).length ≤ 1000000) := Lib.hid (by rw [List.length_append]; simp only [List.length_cons, List.length_nil] at hnl ⊢; omega)
      have HLN2 : Hid (([76] ++ numsL [l.gen.toNat, l.dk.toNat, i, n5]).length ≤ 1000) := Lib.hid (by rw [List.length_append]; simp only [List.length_cons, List.length_nil] at hnl ⊢; omega)
      clear hchr hcc hcell hPq hclen hpl h28 hnl
      refine wp_seq_k (fun KA hKA => ?_)
      refine Lin.begin ?_
      refine Lin.take 19 rfl rfl (by have hh := hiI; go_simp <;> with_reducible rfl) (by simp only [Act.put, List.setIfInBounds_toArray, List.set_cons_zero, List.set_cons_succ] <;> rfl) ?_
      refine Lin.done (hKA _ _ ?_)
      refine wp_seq_k (fun KB hKB => ?_)
      refine wp_cond_true rfl ?_
      refine wp_skip ?_
      refine hKB _ _ ?_
      refine wp_seq_k (fun KC hKC => ?_)
      refine wp_block ?_
      refine wp_seq_k (fun KD hKD => ?_)
      refine Lin.begin ?_
      refine Lin.take 20 rfl rfl (by go_simp <;> with_reducible rfl) (by simp only [Act.put, List.setIfInBounds_toArray, List.set_cons_zero, List.set_cons_succ] <;> rfl) ?_
      refine Lin.take 21 rfl rfl (by have h0 := hi0; have h1 := hiI; have h2 := hcap5; go_simp <;> with_reducible rfl) (by simp only [Act.put, List.setIfInBounds_toArray, List.set_cons_zero, List.set_cons_succ] <;> rfl) ?_
      refine Lin.take 22 rfl rfl (by have hc := HCELL.out; go_simp <;> with_reducible rfl) (by simp only [Act.put, List.setIfInBounds_toArray, List.set_cons_zero, List.set_cons_succ] <;> rfl) ?_
      refine Lin.take 6 rfl rfl (by go_simp <;> with_reducible rfl) (by simp only [Act.put, List.setIfInBounds_toArray, List.set_cons_zero, List.set_cons_succ] <;> rfl) ?_
      refine Lin.take 7 rfl rfl (by go_simp <;> with_reducible rfl) (by simp only [Act.put, List.setIfInBounds_toArray, List.set_cons_zero, List.set_cons_succ] <;> rfl) ?_
      refine Lin.done (hKD _ _ ?_)
      refine wp_seq_k (fun KE hKE => ?_)
      refine Lin.begin ?_
      refine Lin.takeW 23 rfl rfl (by go_simp; exact ⟨rfl, rfl⟩) (by simp only [Act.put, List.setIfInBounds_toArray, List.set_cons_zero, List.set_cons_succ] <;> rfl) ?_
      intro z1 hz1w
      have HA1 : Hid (Sl z1 1 (some ⟨wr.heap.size, 0, none⟩) 1 1 (bv [76])) := by rw [hz1w]; exact Lib.hid (Sl.byte wr _ 76 76 rfl)
      have hb1 : Below wr.heap.size wr z1 := by rw [hz1w]; exact (Below.refl _ _).alloc (Nat.le_refl _) _
      have LZ1 := (LW.out.below hb1 hgw)
      have hgz1 : g < z1.heap.size := Nat.lt_of_lt_of_le hgw hb1.size
      have HZ1 := Lib.hid hb1
      clear hz1w hb1
      refine Lin.take 24 rfl rfl (by go_simp <;> with_reducible rfl) (by simp only [Act.put, List.setIfInBounds_toArray, List.set_cons_zero, List.set_cons_succ] <;> rfl) ?_
      refine Lin.take 25 rfl rfl (by have k2 := LZ1.k2; go_simp <;> with_reducible rfl) (by simp only [Act.put, List.setIfInBounds_toArray, List.set_cons_zero, List.set_cons_succ] <;> rfl) ?_
      refine Lin.take 26 rfl rfl (by go_simp <;> with_reducible rfl) (by simp only [Act.put, List.setIfInBounds_toArray, List.set_cons_zero, List.set_cons_succ] <;> rfl) ?_
      refine Lin.take 27 rfl rfl (by have k1 := LZ1.k1; go_simp <;> with_reducible rfl) (by simp only [Act.put, List.setIfInBounds_toArray, List.set_cons_zero, List.set_cons_succ] <;> rfl) ?_
      refine Lin.take 28 (v := .int .u64 l.dk) rfl rfl (by have h0 := HV.out.2.1; have h2 := HO.out.dk1; go_simp <;> (rw [IntKind.wrap_u64]; omega)) (by simp only [Act.put, List.setIfInBounds_toArray, List.set_cons_zero, List.set_cons_succ] <;> rfl) ?_
      refine Lin.take 29 rfl rfl (by go_simp <;> with_reducible rfl) (by simp only [Act.put, List.setIfInBounds_toArray, List.set_cons_zero, List.set_cons_succ] <;> rfl) ?_
      refine Lin.take 30 (v := .int .u64 (i : Int)) rfl rfl (by have h0 := hi0; have h1 := hiI; have h2 := hn6I; go_simp <;> (rw [IntKind.wrap_u64]; omega)) (by simp only [Act.put, List.setIfInBounds_toArray, List.set_cons_zero, List.set_cons_succ] <;> rfl) ?_
      refine Lin.take 31 rfl rfl (by go_simp <;> with_reducible rfl) (by simp only [Act.put, List.setIfInBounds_toArray, List.set_cons_zero, List.set_cons_succ] <;> rfl) ?_
      refine Lin.take 32 rfl rfl (by go_simp <;> with_reducible rfl) (by simp only [Act.put, List.setIfInBounds_toArray, List.set_cons_zero, List.set_cons_succ] <;> rfl) ?_
      refine Lin.take 33 (v := .int .u64 (n5 : Int)) rfl rfl (by have h2 := hn6I; go_simp <;> (rw [IntKind.wrap_u64]; omega)) (by simp only [Act.put, List.setIfInBounds_toArray, List.set_cons_zero, List.set_cons_succ] <;> rfl) ?_
      refine Lin.takeW 34 rfl rfl (by go_simp; exact ⟨rfl, rfl⟩) (by simp only [Act.put, List.setIfInBounds_toArray, List.set_cons_zero, List.set_cons_succ] <;> rfl) ?_
      intro z2 hz2w
      have hb2 : Below z1.heap.size z1 z2 := by rw [hz2w]; exact (Below.refl _ _).alloc (Nat.le_refl _) _
      have HA2 : Hid (Sl z2 1 (some ⟨z1.heap.size, 0, none⟩) 4 4 (uc [l.gen.toNat, l.dk.toNat, i, n5])) := by
        have := Sl.lit z1 #[.int .u64 l.gen, .int .u64 l.dk, .int .u64 (i : Int), .int .u64 (n5 : Int)] 22 4 rfl (by decide) (by intro u hu; simp at hu; rcases hu with rfl | rfl | rfl | rfl <;> rfl)
        rw [hz2w]
        have e : uc [l.gen.toNat, l.dk.toNat, i, n5] = [.int .u64 l.gen, .int .u64 l.dk, .int .u64 (i : Int), .int .u64 (n5 : Int)] := by
          have h0 := HO.out.gen0; have h1 := HV.out.2.1
          simp only [uc, List.map_cons, List.map_nil, Int.toNat_of_nonneg h0, Int.toNat_of_nonneg h1]
        rw [e]
        exact Lib.hid this
      have HA1 := Lib.hid (HA1.out.below hb2)
      have HZ2 := Lib.hid (HZ1.out.trans (hb2.mono HZ1.out.size))
      clear hz2w hb2 LZ1
      refine Lin.enterS 35 rfl rfl (by go_simp <;> (first | exact ⟨rfl, rfl⟩ | rfl)) (numbers_any _ 1 1 [76] _ 4 4 [l.gen.toNat, l.dk.toNat, i, n5] _ HA1.out HA2.out (by have h1 := HV.out.2.2.1; have h2 : l.cd ≤ 60 := HV.out.1.2.1; have h3 := HO.out.gen1; intro x hx; simp only [List.mem_cons, List.not_mem_nil, or_false] at hx; rcases hx with rfl | rfl | rfl | rfl <;> omega) (by simp)) ?_
      rintro aN nN cN z3 ⟨hsN, hb3⟩ aa ha; simp only [Act.put, List.setIfInBounds_toArray, List.set_cons_zero, List.set_cons_succ] at ha; subst ha
      have HSN := Lib.hid hsN
      have HZ3 := Lib.hid (HZ2.out.trans (hb3.mono HZ2.out.size))
      clear hsN hb3 HA1 HA2
      refine Lin.take 8 rfl rfl (by go_simp <;> with_reducible rfl) (by simp only [Act.put, List.setIfInBounds_toArray, List.set_cons_zero, List.set_cons_succ] <;> rfl) ?_
      refine Lin.done (hKE _ _ ?_)
      refine Lin.begin ?_
      refine Lin.take 36 rfl rfl (by go_simp <;> with_reducible rfl) (by simp only [Act.put, List.setIfInBounds_toArray, List.set_cons_zero, List.set_cons_succ] <;> rfl) ?_
      refine Lin.take 37 rfl rfl (by go_simp <;> with_reducible rfl) (by simp only [Act.put, List.setIfInBounds_toArray, List.set_cons_zero, List.set_cons_succ] <;> rfl) ?_
      refine Lin.take 38 rfl rfl (by go_simp <;> with_reducible rfl) (by simp only [Act.put, List.setIfInBounds_toArray, List.set_cons_zero, List.set_cons_succ] <;> rfl) ?_
      refine Lin.enterS 39 rfl rfl (by go_simp <;> (first | exact ⟨rfl, rfl⟩ | rfl)) (appendBytes_any aN nN cN _ aP nP cP (chunkL (payloadL l) i) _ HSN.out HLN.out (HCH.out.below (HW.out.trans (HZ3.out.mono HW.out.size))) (by have := chunkL_length (payloadL l) i; omega)) ?_
      rintro aS nS cS z4 ⟨hoS, hb4⟩ aa ha; simp only [Act.put, List.setIfInBounds_toArray, List.set_cons_zero, List.set_cons_succ] at ha; subst ha
      have HOS := Lib.hid hoS
      have HZ4 := Lib.hid (HZ3.out.trans (hb4.mono HZ3.out.size))
      have hz34 : z3.heap.size ≤ z4.heap.size := hb4.size
      clear hoS hb4
      refine Lin.enterS 40 rfl rfl (by go_simp <;> (first | exact ⟨rfl, rfl⟩ | rfl)) (sealed_any z3.heap.size aS nS cS _ z4 HOS.out hz34 (by have h2 := chunkL_length (payloadL l) i; have h3 := uv1 (x := (chunkL (payloadL l) i).length) (by omega); have h4 := HLN2.out; simp only [List.length_append] at h4 ⊢; omega)) ?_
      rintro aQ nQ cQ z5 ⟨hoQ, hb5⟩ aa ha; simp only [Act.put, List.setIfInBounds_toArray, List.set_cons_zero, List.set_cons_succ] at ha; subst ha
      have HOQ : Hid (z5.ownsRow w5.heap.size 5 1 (.slice aQ nQ cQ) nQ (bv (sectorL l.gen.toNat l.dk.toNat i n5 (chunkL (payloadL l) i)))) := by
        refine Lib.hid (ownsRow_base (b' := w5.heap.size) ?_ (Nat.le_trans HW.out.size HZ3.out.size))
        simpa [sectorL] using hoQ
      have HZ5 := Lib.hid (HZ4.out.trans (hb5.mono HZ3.out.size))
      clear hoQ hb5 HOS
      refine Lin.takeW 41 rfl rfl (by go_simp; exact ⟨rfl, rfl⟩) (by simp only [Act.put, List.setIfInBounds_toArray, List.set_cons_zero, List.set_cons_succ] <;> rfl) ?_
      intro z6 hz6w
      have HA6 : Hid (Sl z6 1 (some ⟨z5.heap.size, 0, none⟩) 1 1 [.slice aQ nQ cQ]) := by rw [hz6w]; exact Lib.hid (Sl.single z5 _ _ rfl)
      obtain ⟨vs, hv1, hv2⟩ := (HG.out.below HZ5.out).ex
      have hlt : ((cutL l.gen.toNat l.dk.toNat (payloadL l)).take i).length = i := by rw [List.length_take, cutL_length]; have := HN5.out; omega
      have HZ6 := Lib.hid (show Below wr.heap.size wr z6 by rw [hz6w]; exact HZ5.out.alloc HZ5.out.size _)
      have hv6 : z6.ownsRow w5.heap.size 35 1 (.slice a1 i c1) i vs := by
        have h6 := hv1.alloc (.cells #[.slice aQ nQ cQ] 35)
        rw [hlt] at h6
        rw [hz6w]
        exact h6
      refine wpList_appendS z6 rfl (.tmp 36) (.tmp 41) rfl w5.heap.size _ i vs rfl hv6 _ 1 1 [.slice aQ nQ cQ] rfl HA6.out (by omega) (Nat.le_trans HW.out.size HZ6.out.size) ?_
      intro a7 c7 z7 hown7 hgrow7
      simp only [Act.put, List.setIfInBounds_toArray, List.set_cons_zero, List.set_cons_succ] 
      have HG7 : Hid (Gat z7 w5.heap.size (.slice a7 (i + 1) c7) ((cutL l.gen.toNat l.dk.toNat (payloadL l)).take (i + 1))) := by
        rw [← cutL_take (by have := HN5.out; omega)]
        rw [hz6w] at hgrow7
        have := Gat.push (tmp := .cells #[.slice aQ nQ cQ] 35) hv1 hv2 HOQ.out (w1 := z7) (v' := .slice a7 (i + 1) c7) (by rw [hlt]; exact hown7) hgrow7
        rw [HN5.out] at this
        exact Lib.hid this
      have HZ7 : Hid (Below w5.heap.size w5 z7) := Lib.hid ((HW.out.trans (HZ6.out.mono HW.out.size)).grown hgrow7 (Nat.le_trans HW.out.size HZ6.out.size) (fun j hj => (hv6.lt j hj).1))
      clear hz6w hv1 hv2 hv6 hown7 hgrow7 hlt
      refine Lin.take 5 rfl rfl (by go_simp <;> with_reducible rfl) (by simp only [Act.put, List.setIfInBounds_toArray, List.set_cons_zero, List.set_cons_succ] <;> rfl) ?_
      refine Lin.end ?_
      simp only [Exit.inBlock, Exit.then]
      refine hKC _ _ ?_
      go_wp2
      go_roundw
      case rel => exact ⟨i + 1, a7, c7, by go_num, by omega, rfl, HG7, HZ7⟩
      case measure => simp [intOf]; omega
    · have hiI : ¬ (i : Int) < n5 := by omega
      obtain rfl : n5 = i := by omega
      go_wp2
      refine HK5.out _ _ ?_
      go_wp2
      refine bodyPost_ret (results_tmp2 rfl _ _ _) rfl ?_
      refine ⟨a1, n5, c1, ?_, ?_, HB5.out.trans (HW.out.mono HB5.out.size)⟩
      · first | rfl | (rw [if_pos HV.out]; rfl)
      · have := HG.out.sls
        rw [List.take_of_length_le (by rw [cutL_length]; have := HN5.out; omega)] at this
        unfold encL
        rw [if_pos HV.out]
        exact this

end Go.Proofs.Ytjjknjkpkoeelaa
