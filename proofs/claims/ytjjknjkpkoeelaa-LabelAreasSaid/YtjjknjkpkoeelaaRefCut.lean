/- Labels: the reference's Cut and Encode. (Printed by refcut.py.) -/
import Derived.Test.YtjjknjkpkoeelaaPayl3
import Derived.Test.YtjjknjkpkoeelaaChunk2
import Derived.Test.YtjjknjkpkoeelaaLblR
set_option linter.unusedVariables false
set_option linter.unusedSimpArgs false
namespace Go.Proofs.Ytjjknjkpkoeelaa
open Go Go.RowKit Go.Lib

theorem run_sliceOp {o : Oper} {ρ : Operand → Value} {t : TypeId} {x lo hi : Operand} {vx vlo vhi v : Value} {w : World} (ho : o.op = .slice t x (some lo) (some hi) none) (hx : ρ x = vx) (hlo : ρ lo = vlo) (hhi : ρ hi = vhi)
    (ht : Try.prog.underlying t = some (.slice (Try.prog.elem t))) (hr : (Instr.slice t vx (some vlo) (some vhi) none).run Try.prog w = .ok v w) : (execOp ρ o).run Try.prog w = .ok (.value v) w := by
  unfold execOp
  rw [ho]
  simp only [hx, hlo, hhi, Option.map_some, Option.map_none, Sem.run_bind, run_sliceAt_slice w t vx _ _ _ ht, hr, Result.andThen_ok, Sem.run_pure]

set_option maxRecDepth 100000 in
set_option maxHeartbeats 3200000 in
theorem refCut_any (gen disk : Int) (a : Option Addr) (n c : Nat) (q : List UInt8) (w : World) (h : Sl w 1 a n c (bv q)) (hl : q.length ≤ 1000) (hg0 : 0 ≤ gen) (hg1 : gen < 18446744073709551616) (hd0 : 0 ≤ disk) (hd1 : disk ≤ 1000) :
    Calls Try.prog 25 #[.int .u64 gen, .int .i64 disk, .slice a n c] w fun e w' => ∃ a1 n1 c1, e = .returned (.slice a1 n1 c1) ∧ Sls w' a1 n1 c1 (cutL gen.toNat disk.toNat q) ∧ Below w.heap.size w w' := by
  have hql : q.length = n := by have := h.len; rw [bv_length] at this; omega
  have hnI : (n : Int) ≤ 1000 := by omega
  obtain ⟨N, hN⟩ : ∃ N, N = (n + 27) / 28 := ⟨_, rfl⟩
  have HNQ : Hid (N = partsN q) := Lib.hid (by rw [hN, ← hql]; rfl)
  have HNN := Lib.hid hN
  have hN6 : (N : Int) ≤ 100 := by omega
  have HQL := Lib.hid hql
  have HP := Lib.hid h
  have HLG := Lib.hid (uvarint_length64 (x := gen.toNat) (by omega))
  have HLD := Lib.hid (uvarint_length64 (x := disk.toNat) (by omega))
  have HLNN := Lib.hid (uvarint_length64 (x := N) (by omega))
  obtain ⟨i0, hi8, hz0, hz1, hz2⟩ := info_parts info_u8
  have hcap := h.cap
  have HHL := Lib.hid hl
  clear h hN hql hl
  go_enter Try.func25, Try.ntmps25
  refine wp_seq_k (fun K0 hK0 => ?_)
  refine Lin.begin ?_
  refine Lin.take 6 rfl rfl (by go_simp <;> with_reducible rfl) (by simp only [Act.put, List.setIfInBounds_toArray, List.set_cons_zero, List.set_cons_succ] <;> rfl) ?_
  refine Lin.done (hK0 _ _ ?_)
  refine wp_seq_k (fun K1 hK1 => ?_)
  refine Lin.begin ?_
  refine Lin.take 12 rfl rfl (by go_simp <;> with_reducible rfl) (by simp only [Act.put, List.setIfInBounds_toArray, List.set_cons_zero, List.set_cons_succ] <;> rfl) ?_
  refine Lin.take 13 rfl rfl (by go_simp <;> with_reducible rfl) (by simp only [Act.put, List.setIfInBounds_toArray, List.set_cons_zero, List.set_cons_succ] <;> rfl) ?_
  refine Lin.take 14 (v := .int .i64 ((n : Int) + 27)) rfl rfl (by have h1 := hnI; go_simp <;> exact IntWalk.i64_in _ (by omega)) (by simp only [Act.put, List.setIfInBounds_toArray, List.set_cons_zero, List.set_cons_succ] <;> rfl) ?_
  refine Lin.take 15 (v := .int .i64 (N : Int)) rfl rfl (by have h1 := hnI; have h2 := HNN.out; go_simp <;> (first | (rw [IntWalk.i64_quo _ _ (by omega)] <;> omega) | (rw [IntWalk.i64_in _ (by omega)] <;> omega))) (by simp only [Act.put, List.setIfInBounds_toArray, List.set_cons_zero, List.set_cons_succ] <;> rfl) ?_
  refine Lin.take 7 rfl rfl (by go_simp <;> with_reducible rfl) (by simp only [Act.put, List.setIfInBounds_toArray, List.set_cons_zero, List.set_cons_succ] <;> rfl) ?_
  refine Lin.done (hK1 _ _ ?_)
  refine wp_seq_k (fun K2 hK2 => ?_)
  refine Lin.begin ?_
  refine Lin.take 8 rfl rfl (by go_simp <;> with_reducible rfl) (by simp only [Act.put, List.setIfInBounds_toArray, List.set_cons_zero, List.set_cons_succ] <;> rfl) ?_
  refine Lin.done (hK2 _ _ ?_)
  refine wp_seq_k (fun K5 hK5 => ?_)
  have HK5 := Lib.hid hK5
  clear hK5
  go_wp2
  go_loopw [8, 9] (fun bvv iv wr => ∃ (i : Nat) (a1 : Option Addr) (c1 : Nat), iv = .int .i64 (i : Int) ∧ i ≤ N ∧ bvv = .slice a1 i c1 ∧ Hid (Gat wr w.heap.size (.slice a1 i c1) ((cutL gen.toNat disk.toNat q).take i)) ∧ Hid (Below w.heap.size w wr)) (fun _ iv _ => N - (intOf iv).toNat)
  case atStart => exact ⟨0, none, 0, rfl, by omega, rfl, Lib.hid (Gat.nil _ _), Lib.hid (Below.refl _ _)⟩
  case round =>
    obtain ⟨i, a1, c1, rfl, hin, rfl, HG, HBW⟩ := hrel
    by_cases hi : i < N
    · have hiI : (i : Int) < N := by omega
      have hi0 : (0 : Int) ≤ (i : Int) := by omega
      have h28 : 28 * i < n := by have h1 := HNN.out; omega
      have HLI := Lib.hid (uvarint_length64 (x := i) (by omega))
      obtain ⟨e1, he1⟩ : ∃ e1, e1 = 28 * (i + 1) := ⟨_, rfl⟩
      have HE1 := Lib.hid he1
      obtain ⟨lo, hlo⟩ : ∃ lo, lo = 28 * i := ⟨_, rfl⟩
      have HLO := Lib.hid hlo
      clear he1 hlo
      refine wp_seq_k (fun KA hKA => ?_)
      refine wp_seq_k (fun KB hKB => ?_)
      refine Lin.begin ?_
      refine Lin.take 16 rfl rfl (by go_simp <;> with_reducible rfl) (by simp only [Act.put, List.setIfInBounds_toArray, List.set_cons_zero, List.set_cons_succ] <;> rfl) ?_
      refine Lin.take 17 rfl rfl (by go_simp <;> with_reducible rfl) (by simp only [Act.put, List.setIfInBounds_toArray, List.set_cons_zero, List.set_cons_succ] <;> rfl) ?_
      refine Lin.take 18 rfl rfl (by have hh := hiI; go_simp <;> with_reducible rfl) (by simp only [Act.put, List.setIfInBounds_toArray, List.set_cons_zero, List.set_cons_succ] <;> rfl) ?_
      refine Lin.done (hKB _ _ ?_)
      refine wp_cond_true rfl ?_
      refine wp_skip ?_
      refine hKA _ _ ?_
      refine wp_seq_k (fun KC hKC => ?_)
      refine wp_block ?_
      refine wp_seq_k (fun KD hKD => ?_)
      refine Lin.begin ?_
      refine Lin.take 21 rfl rfl (by go_simp <;> with_reducible rfl) (by simp only [Act.put, List.setIfInBounds_toArray, List.set_cons_zero, List.set_cons_succ] <;> rfl) ?_
      refine Lin.take 22 (v := .int .i64 ((i : Int) + 1)) rfl rfl (by have h0 := hi0; have h1 := hiI; have h2 := hN6; go_simp <;> exact IntWalk.i64_in _ (by omega)) (by simp only [Act.put, List.setIfInBounds_toArray, List.set_cons_zero, List.set_cons_succ] <;> rfl) ?_
      refine Lin.take 23 (v := .int .i64 (e1 : Int)) rfl rfl (by have h0 := hi0; have h1 := hiI; have h2 := hN6; have h3 := HE1.out; go_simp <;> (rw [IntWalk.i64_in _ (by omega)] <;> omega)) (by simp only [Act.put, List.setIfInBounds_toArray, List.set_cons_zero, List.set_cons_succ] <;> rfl) ?_
      refine Lin.take 10 rfl rfl (by go_simp <;> with_reducible rfl) (by simp only [Act.put, List.setIfInBounds_toArray, List.set_cons_zero, List.set_cons_succ] <;> rfl) ?_
      refine Lin.done (hKD _ _ ?_)
      refine wp_seq_k (fun KH hKH => ?_)
      refine wp_seq_k (fun KG hKG => ?_)
      refine Lin.begin ?_
      refine Lin.take 24 rfl rfl (by go_simp <;> with_reducible rfl) (by simp only [Act.put, List.setIfInBounds_toArray, List.set_cons_zero, List.set_cons_succ] <;> rfl) ?_
      refine Lin.take 25 rfl rfl (by go_simp <;> with_reducible rfl) (by simp only [Act.put, List.setIfInBounds_toArray, List.set_cons_zero, List.set_cons_succ] <;> rfl) ?_
      refine Lin.take 26 rfl rfl (by go_simp <;> with_reducible rfl) (by simp only [Act.put, List.setIfInBounds_toArray, List.set_cons_zero, List.set_cons_succ] <;> rfl) ?_
      refine Lin.take 27 rfl rfl (by go_simp <;> with_reducible rfl) (by simp only [Act.put, List.setIfInBounds_toArray, List.set_cons_zero, List.set_cons_succ] <;> rfl) ?_
      refine Lin.done (hKG _ _ ?_)
      refine wp_cond_split rfl (fun ht => ?_) (fun hf => ?_)
      · have hgt : n < e1 := by simp only [decide_eq_true_eq] at ht; have := HE1.out; omega
        clear ht
        have HEV : Hid (n = min (28 * (i + 1)) n) := Lib.hid (by have := HE1.out; omega)
        refine Lin.begin ?_
        refine Lin.take 28 rfl rfl (by go_simp <;> with_reducible rfl) (by simp only [Act.put, List.setIfInBounds_toArray, List.set_cons_zero, List.set_cons_succ] <;> rfl) ?_
        refine Lin.take 29 rfl rfl (by go_simp <;> with_reducible rfl) (by simp only [Act.put, List.setIfInBounds_toArray, List.set_cons_zero, List.set_cons_succ] <;> rfl) ?_
        refine Lin.take 10 rfl rfl (by go_simp <;> with_reducible rfl) (by simp only [Act.put, List.setIfInBounds_toArray, List.set_cons_zero, List.set_cons_succ] <;> rfl) ?_
        refine Lin.done (hKH _ _ ?_)
        have hlev : lo ≤ n := by have := HLO.out; omega
        have hevn' : n ≤ n := by omega
        obtain ⟨aP, hslr, hchr⟩ := HP.out.run_lh (P := Try.prog) 35 5 i0 Try.underlying35 (by kernel_rfl) hi8 hz1 lo n hlev hevn'
        have HSLR := Lib.hid hslr
        have HCH : Hid (Sl w 1 aP (n - lo) (c - lo) (bv (chunkL q i))) := by
          rw [Nat.mul_one, Nat.mul_one, bv_take, bv_drop] at hchr
          have hql := HQL.out
          have hlo' := HLO.out
          have hev' := HEV.out
          have e : (q.take n).drop lo = chunkL q i := by
            unfold chunkL
            rw [List.drop_take, hlo', hev']
            by_cases h28 : 28 ≤ q.length - 28 * i
            · rw [show min (28 * (i + 1)) n - 28 * i = 28 by omega]
            · rw [List.take_of_length_le (by rw [List.length_drop]; omega), List.take_of_length_le (by rw [List.length_drop]; omega)]
          rw [e] at hchr
          exact Lib.hid hchr
        clear hslr hchr
        refine wp_seq_k (fun KE hKE => ?_)
        refine Lin.begin ?_
        refine Lin.takeW 30 rfl rfl (by go_simp; exact ⟨rfl, rfl⟩) (by simp only [Act.put, List.setIfInBounds_toArray, List.set_cons_zero, List.set_cons_succ] <;> rfl) ?_
        intro z1 hz1w
        have HA1 : Hid (Sl z1 1 (some ⟨wr.heap.size, 0, none⟩) 1 1 (bv [76])) := by rw [hz1w]; exact Lib.hid (Sl.byte wr _ 76 76 rfl)
        have HZ1 : Hid (Below wr.heap.size wr z1) := by rw [hz1w]; exact Lib.hid ((Below.refl _ _).alloc (Nat.le_refl _) _)
        clear hz1w
        refine Lin.take 31 rfl rfl (by go_simp <;> with_reducible rfl) (by simp only [Act.put, List.setIfInBounds_toArray, List.set_cons_zero, List.set_cons_succ] <;> rfl) ?_
        refine Lin.enterS 32 rfl rfl (by go_simp <;> (first | exact ⟨rfl, rfl⟩ | rfl)) (refAppendUint_any _ 1 1 [76] gen z1 HA1.out (by simp) hg0 hg1) ?_
        rintro b1 m1 d1 z2 ⟨ho, hb⟩ aa ha; simp only [Act.put, List.setIfInBounds_toArray, List.set_cons_zero, List.set_cons_succ] at ha; subst ha
        have HA2 := Lib.hid (Sl.of_owns ho (bv_one _)).2
        have HZ2 := Lib.hid (HZ1.out.trans (hb.mono HZ1.out.size))
        clear ho hb
        refine Lin.take 33 rfl rfl (by go_simp <;> with_reducible rfl) (by simp only [Act.put, List.setIfInBounds_toArray, List.set_cons_zero, List.set_cons_succ] <;> rfl) ?_
        refine Lin.take 34 (v := .int .u64 disk) rfl rfl (by have h0 := hd0; have h2 := hd1; go_simp <;> (rw [IntKind.wrap_u64]; omega)) (by simp only [Act.put, List.setIfInBounds_toArray, List.set_cons_zero, List.set_cons_succ] <;> rfl) ?_
        refine Lin.enterS 35 rfl rfl (by go_simp <;> (first | exact ⟨rfl, rfl⟩ | rfl)) (refAppendUint_any _ m1 d1 _ disk z2 HA2.out (by have := HLG.out; simp only [List.length_append, List.length_cons, List.length_nil]; omega) hd0 (by omega)) ?_
        rintro b2 m2 d2 z3 ⟨ho, hb⟩ aa ha; simp only [Act.put, List.setIfInBounds_toArray, List.set_cons_zero, List.set_cons_succ] at ha; subst ha
        have HA3 := Lib.hid (Sl.of_owns ho (bv_one _)).2
        have HZ3 := Lib.hid (HZ2.out.trans (hb.mono HZ2.out.size))
        clear ho hb
        refine Lin.take 11 rfl rfl (by go_simp <;> with_reducible rfl) (by simp only [Act.put, List.setIfInBounds_toArray, List.set_cons_zero, List.set_cons_succ] <;> rfl) ?_
        refine Lin.done (hKE _ _ ?_)
        refine wp_seq_k (fun KF hKF => ?_)
        refine Lin.begin ?_
        refine Lin.take 36 rfl rfl (by go_simp <;> with_reducible rfl) (by simp only [Act.put, List.setIfInBounds_toArray, List.set_cons_zero, List.set_cons_succ] <;> rfl) ?_
        refine Lin.take 37 rfl rfl (by go_simp <;> with_reducible rfl) (by simp only [Act.put, List.setIfInBounds_toArray, List.set_cons_zero, List.set_cons_succ] <;> rfl) ?_
        refine Lin.take 38 (v := .int .u64 (i : Int)) rfl rfl (by have h0 := hi0; have h1 := hiI; have h2 := hN6; go_simp <;> (rw [IntKind.wrap_u64]; omega)) (by simp only [Act.put, List.setIfInBounds_toArray, List.set_cons_zero, List.set_cons_succ] <;> rfl) ?_
        refine Lin.enterS 39 rfl rfl (by go_simp <;> (first | exact ⟨rfl, rfl⟩ | rfl)) (refAppendUint_any _ m2 d2 _ (i : Int) z3 HA3.out (by have := HLG.out; have := HLD.out; simp only [List.length_append, List.length_cons, List.length_nil]; omega) hi0 (by omega)) ?_
        rintro b3 m3 d3 z4 ⟨ho, hb⟩ aa ha; simp only [Act.put, List.setIfInBounds_toArray, List.set_cons_zero, List.set_cons_succ] at ha; subst ha
        have HA4 := Lib.hid (Sl.of_owns ho (bv_one _)).2
        have HZ4 := Lib.hid (HZ3.out.trans (hb.mono HZ3.out.size))
        clear ho hb
        refine Lin.take 40 rfl rfl (by go_simp <;> with_reducible rfl) (by simp only [Act.put, List.setIfInBounds_toArray, List.set_cons_zero, List.set_cons_succ] <;> rfl) ?_
        refine Lin.take 41 (v := .int .u64 (N : Int)) rfl rfl (by have h2 := hN6; go_simp <;> (rw [IntKind.wrap_u64]; omega)) (by simp only [Act.put, List.setIfInBounds_toArray, List.set_cons_zero, List.set_cons_succ] <;> rfl) ?_
        refine Lin.enterS 42 rfl rfl (by go_simp <;> (first | exact ⟨rfl, rfl⟩ | rfl)) (refAppendUint_any _ m3 d3 _ (N : Int) z4 HA4.out (by have := HLG.out; have := HLD.out; have := HLI.out; simp only [List.length_append, List.length_cons, List.length_nil, Int.toNat_natCast]; omega) (by omega) (by omega)) ?_
        rintro b4 m4 d4 z5 ⟨ho, hb⟩ aa ha; simp only [Act.put, List.setIfInBounds_toArray, List.set_cons_zero, List.set_cons_succ] at ha; subst ha
        have HA5 := Lib.hid (Sl.of_owns ho (bv_one _)).2
        have HZ5 := Lib.hid (HZ4.out.trans (hb.mono HZ4.out.size))
        clear ho hb
        refine Lin.take 11 rfl rfl (by go_simp <;> with_reducible rfl) (by simp only [Act.put, List.setIfInBounds_toArray, List.set_cons_zero, List.set_cons_succ] <;> rfl) ?_
        refine Lin.done (hKF _ _ ?_)
        refine Lin.begin ?_
        refine Lin.take 43 rfl rfl (by go_simp <;> with_reducible rfl) (by simp only [Act.put, List.setIfInBounds_toArray, List.set_cons_zero, List.set_cons_succ] <;> rfl) ?_
        refine Lin.take 44 rfl rfl (by go_simp <;> with_reducible rfl) (by simp only [Act.put, List.setIfInBounds_toArray, List.set_cons_zero, List.set_cons_succ] <;> rfl) ?_
        refine Lin.take 45 rfl rfl (by go_simp <;> with_reducible rfl) (by simp only [Act.put, List.setIfInBounds_toArray, List.set_cons_zero, List.set_cons_succ] <;> rfl) ?_
        refine Lin.take 46 rfl rfl (by go_simp <;> with_reducible rfl) (by simp only [Act.put, List.setIfInBounds_toArray, List.set_cons_zero, List.set_cons_succ] <;> rfl) ?_
        refine Lin.take 47 (v := .int .i64 (lo : Int)) rfl rfl (by have h0 := hi0; have h1 := hiI; have h2 := hN6; have h3 := HLO.out; go_simp <;> (rw [IntWalk.i64_in _ (by omega)] <;> omega)) (by simp only [Act.put, List.setIfInBounds_toArray, List.set_cons_zero, List.set_cons_succ] <;> rfl) ?_
        refine Lin.take 48 rfl rfl (by go_simp <;> with_reducible rfl) (by simp only [Act.put, List.setIfInBounds_toArray, List.set_cons_zero, List.set_cons_succ] <;> rfl) ?_
        refine Lin.take 49 (v := .slice aP (n - lo) (c - lo)) rfl rfl (run_sliceOp rfl rfl rfl rfl Try.underlying35 (HSLR.out z5)) (by simp only [Act.put, List.setIfInBounds_toArray, List.set_cons_zero, List.set_cons_succ] <;> rfl) ?_
        refine Lin.enterS 50 rfl rfl (by go_simp <;> (first | exact ⟨rfl, rfl⟩ | rfl)) (refAppendBytes_any b4 m4 d4 _ aP (n - lo) (c - lo) (chunkL q i) z5 HA5.out (by have := HLG.out; have := HLD.out; have := HLI.out; have := HLNN.out; simp only [List.length_append, List.length_cons, List.length_nil, Int.toNat_natCast]; omega) (HCH.out.below (HBW.out.trans (HZ5.out.mono HBW.out.size))) (by have := chunkL_length q i; omega)) ?_
        rintro aS nS cS z6 ⟨hoS, hb6⟩ aa ha; simp only [Act.put, List.setIfInBounds_toArray, List.set_cons_zero, List.set_cons_succ] at ha; subst ha
        have HOS := Lib.hid (Sl.of_owns hoS (bv_one _)).2
        have HZ6 := Lib.hid (HZ5.out.trans (hb6.mono HZ5.out.size))
        clear hoS hb6
        refine Lin.enterS 51 rfl rfl (by go_simp <;> (first | exact ⟨rfl, rfl⟩ | rfl)) (refSealed_any aS nS cS _ z6 HOS.out (by have h2 := chunkL_length q i; have h3 := uv1 (x := (chunkL q i).length) (by omega); have := HLG.out; have := HLD.out; have := HLI.out; have := HLNN.out; simp only [List.length_append, List.length_cons, List.length_nil, Int.toNat_natCast]; omega)) ?_
        rintro aQ nQ cQ z7 ⟨hoQ, hb7⟩ aa ha; simp only [Act.put, List.setIfInBounds_toArray, List.set_cons_zero, List.set_cons_succ] at ha; subst ha
        have HOQ : Hid (z7.ownsRow w.heap.size 5 1 (.slice aQ nQ cQ) nQ (bv (sectorL gen.toNat disk.toNat i N (chunkL q i)))) := by
          refine Lib.hid (ownsRow_base (b' := w.heap.size) ?_ (Nat.le_trans HBW.out.size HZ6.out.size))
          simpa [sectorL, numsL] using hoQ
        have HZ7 := Lib.hid (HZ6.out.trans (hb7.mono HZ6.out.size))
        clear hoQ hb7 HOS
        refine Lin.takeW 52 rfl rfl (by go_simp; exact ⟨rfl, rfl⟩) (by simp only [Act.put, List.setIfInBounds_toArray, List.set_cons_zero, List.set_cons_succ] <;> rfl) ?_
        intro z8 hz8w
        have HA8 : Hid (Sl z8 1 (some ⟨z7.heap.size, 0, none⟩) 1 1 [.slice aQ nQ cQ]) := by rw [hz8w]; exact Lib.hid (Sl.single z7 _ _ rfl)
        obtain ⟨vs, hv1, hv2⟩ := (HG.out.below HZ7.out).ex
        have hlt : ((cutL gen.toNat disk.toNat q).take i).length = i := by rw [List.length_take, cutL_length]; have := HNQ.out; omega
        have HZ8 := Lib.hid (show Below wr.heap.size wr z8 by rw [hz8w]; exact HZ7.out.alloc HZ7.out.size _)
        have hv8 : z8.ownsRow w.heap.size 35 1 (.slice a1 i c1) i vs := by
          have h6 := hv1.alloc (.cells #[.slice aQ nQ cQ] 35)
          rw [hlt] at h6
          rw [hz8w]
          exact h6
        refine wpList_appendS z8 rfl (.tmp 43) (.tmp 52) rfl w.heap.size _ i vs rfl hv8 _ 1 1 [.slice aQ nQ cQ] rfl HA8.out (by omega) (Nat.le_trans HBW.out.size HZ8.out.size) ?_
        intro a7 c7 z9 hown7 hgrow7
        simp only [Act.put, List.setIfInBounds_toArray, List.set_cons_zero, List.set_cons_succ] 
        have HG7 : Hid (Gat z9 w.heap.size (.slice a7 (i + 1) c7) ((cutL gen.toNat disk.toNat q).take (i + 1))) := by
          rw [← cutL_take (by have := HNQ.out; omega)]
          rw [hz8w] at hgrow7
          have := Gat.push (tmp := .cells #[.slice aQ nQ cQ] 35) hv1 hv2 HOQ.out (w1 := z9) (v' := .slice a7 (i + 1) c7) (by rw [hlt]; exact hown7) hgrow7
          rw [HNQ.out] at this
          exact Lib.hid this
        have HZ9 : Hid (Below w.heap.size w z9) := Lib.hid ((HBW.out.trans (HZ8.out.mono HBW.out.size)).grown hgrow7 (Nat.le_trans HBW.out.size HZ8.out.size) (fun j hj => (hv8.lt j hj).1))
        clear hz8w hv1 hv2 hv8 hown7 hgrow7 hlt
        refine Lin.take 8 rfl rfl (by go_simp <;> with_reducible rfl) (by simp only [Act.put, List.setIfInBounds_toArray, List.set_cons_zero, List.set_cons_succ] <;> rfl) ?_
        refine Lin.end ?_
        simp only [Exit.inBlock, Exit.then]
        refine hKC _ _ ?_
        go_wp2
        go_roundw
        case rel => exact ⟨i + 1, a7, c7, by go_num, by omega, rfl, HG7, HZ9⟩
        case measure => simp [intOf]; omega
      · have hgt : e1 ≤ n := by simp only [decide_eq_false_iff_not] at hf; have := HE1.out; omega
        clear hf
        have HEV : Hid (e1 = min (28 * (i + 1)) n) := Lib.hid (by have := HE1.out; omega)
        refine wp_skip ?_
        refine hKH _ _ ?_
        have hlev : lo ≤ e1 := by have := HLO.out; have := HE1.out; omega
        have hevn' : e1 ≤ n := by omega
        obtain ⟨aP, hslr, hchr⟩ := HP.out.run_lh (P := Try.prog) 35 5 i0 Try.underlying35 (by kernel_rfl) hi8 hz1 lo e1 hlev hevn'
        have HSLR := Lib.hid hslr
        have HCH : Hid (Sl w 1 aP (e1 - lo) (c - lo) (bv (chunkL q i))) := by
          rw [Nat.mul_one, Nat.mul_one, bv_take, bv_drop] at hchr
          have hql := HQL.out
          have hlo' := HLO.out
          have hev' := HEV.out
          have e : (q.take e1).drop lo = chunkL q i := by
            unfold chunkL
            rw [List.drop_take, hlo', hev']
            by_cases h28 : 28 ≤ q.length - 28 * i
            · rw [show min (28 * (i + 1)) n - 28 * i = 28 by omega]
            · rw [List.take_of_length_le (by rw [List.length_drop]; omega), List.take_of_length_le (by rw [List.length_drop]; omega)]
          rw [e] at hchr
          exact Lib.hid hchr
        clear hslr hchr
        refine wp_seq_k (fun KE hKE => ?_)
        refine Lin.begin ?_
        refine Lin.takeW 30 rfl rfl (by go_simp; exact ⟨rfl, rfl⟩) (by simp only [Act.put, List.setIfInBounds_toArray, List.set_cons_zero, List.set_cons_succ] <;> rfl) ?_
        intro z1 hz1w
        have HA1 : Hid (Sl z1 1 (some ⟨wr.heap.size, 0, none⟩) 1 1 (bv [76])) := by rw [hz1w]; exact Lib.hid (Sl.byte wr _ 76 76 rfl)
        have HZ1 : Hid (Below wr.heap.size wr z1) := by rw [hz1w]; exact Lib.hid ((Below.refl _ _).alloc (Nat.le_refl _) _)
        clear hz1w
        refine Lin.take 31 rfl rfl (by go_simp <;> with_reducible rfl) (by simp only [Act.put, List.setIfInBounds_toArray, List.set_cons_zero, List.set_cons_succ] <;> rfl) ?_
        refine Lin.enterS 32 rfl rfl (by go_simp <;> (first | exact ⟨rfl, rfl⟩ | rfl)) (refAppendUint_any _ 1 1 [76] gen z1 HA1.out (by simp) hg0 hg1) ?_
        rintro b1 m1 d1 z2 ⟨ho, hb⟩ aa ha; simp only [Act.put, List.setIfInBounds_toArray, List.set_cons_zero, List.set_cons_succ] at ha; subst ha
        have HA2 := Lib.hid (Sl.of_owns ho (bv_one _)).2
        have HZ2 := Lib.hid (HZ1.out.trans (hb.mono HZ1.out.size))
        clear ho hb
        refine Lin.take 33 rfl rfl (by go_simp <;> with_reducible rfl) (by simp only [Act.put, List.setIfInBounds_toArray, List.set_cons_zero, List.set_cons_succ] <;> rfl) ?_
        refine Lin.take 34 (v := .int .u64 disk) rfl rfl (by have h0 := hd0; have h2 := hd1; go_simp <;> (rw [IntKind.wrap_u64]; omega)) (by simp only [Act.put, List.setIfInBounds_toArray, List.set_cons_zero, List.set_cons_succ] <;> rfl) ?_
        refine Lin.enterS 35 rfl rfl (by go_simp <;> (first | exact ⟨rfl, rfl⟩ | rfl)) (refAppendUint_any _ m1 d1 _ disk z2 HA2.out (by have := HLG.out; simp only [List.length_append, List.length_cons, List.length_nil]; omega) hd0 (by omega)) ?_
        rintro b2 m2 d2 z3 ⟨ho, hb⟩ aa ha; simp only [Act.put, List.setIfInBounds_toArray, List.set_cons_zero, List.set_cons_succ] at ha; subst ha
        have HA3 := Lib.hid (Sl.of_owns ho (bv_one _)).2
        have HZ3 := Lib.hid (HZ2.out.trans (hb.mono HZ2.out.size))
        clear ho hb
        refine Lin.take 11 rfl rfl (by go_simp <;> with_reducible rfl) (by simp only [Act.put, List.setIfInBounds_toArray, List.set_cons_zero, List.set_cons_succ] <;> rfl) ?_
        refine Lin.done (hKE _ _ ?_)
        refine wp_seq_k (fun KF hKF => ?_)
        refine Lin.begin ?_
        refine Lin.take 36 rfl rfl (by go_simp <;> with_reducible rfl) (by simp only [Act.put, List.setIfInBounds_toArray, List.set_cons_zero, List.set_cons_succ] <;> rfl) ?_
        refine Lin.take 37 rfl rfl (by go_simp <;> with_reducible rfl) (by simp only [Act.put, List.setIfInBounds_toArray, List.set_cons_zero, List.set_cons_succ] <;> rfl) ?_
        refine Lin.take 38 (v := .int .u64 (i : Int)) rfl rfl (by have h0 := hi0; have h1 := hiI; have h2 := hN6; go_simp <;> (rw [IntKind.wrap_u64]; omega)) (by simp only [Act.put, List.setIfInBounds_toArray, List.set_cons_zero, List.set_cons_succ] <;> rfl) ?_
        refine Lin.enterS 39 rfl rfl (by go_simp <;> (first | exact ⟨rfl, rfl⟩ | rfl)) (refAppendUint_any _ m2 d2 _ (i : Int) z3 HA3.out (by have := HLG.out; have := HLD.out; simp only [List.length_append, List.length_cons, List.length_nil]; omega) hi0 (by omega)) ?_
        rintro b3 m3 d3 z4 ⟨ho, hb⟩ aa ha; simp only [Act.put, List.setIfInBounds_toArray, List.set_cons_zero, List.set_cons_succ] at ha; subst ha
        have HA4 := Lib.hid (Sl.of_owns ho (bv_one _)).2
        have HZ4 := Lib.hid (HZ3.out.trans (hb.mono HZ3.out.size))
        clear ho hb
        refine Lin.take 40 rfl rfl (by go_simp <;> with_reducible rfl) (by simp only [Act.put, List.setIfInBounds_toArray, List.set_cons_zero, List.set_cons_succ] <;> rfl) ?_
        refine Lin.take 41 (v := .int .u64 (N : Int)) rfl rfl (by have h2 := hN6; go_simp <;> (rw [IntKind.wrap_u64]; omega)) (by simp only [Act.put, List.setIfInBounds_toArray, List.set_cons_zero, List.set_cons_succ] <;> rfl) ?_
        refine Lin.enterS 42 rfl rfl (by go_simp <;> (first | exact ⟨rfl, rfl⟩ | rfl)) (refAppendUint_any _ m3 d3 _ (N : Int) z4 HA4.out (by have := HLG.out; have := HLD.out; have := HLI.out; simp only [List.length_append, List.length_cons, List.length_nil, Int.toNat_natCast]; omega) (by omega) (by omega)) ?_
        rintro b4 m4 d4 z5 ⟨ho, hb⟩ aa ha; simp only [Act.put, List.setIfInBounds_toArray, List.set_cons_zero, List.set_cons_succ] at ha; subst ha
        have HA5 := Lib.hid (Sl.of_owns ho (bv_one _)).2
        have HZ5 := Lib.hid (HZ4.out.trans (hb.mono HZ4.out.size))
        clear ho hb
        refine Lin.take 11 rfl rfl (by go_simp <;> with_reducible rfl) (by simp only [Act.put, List.setIfInBounds_toArray, List.set_cons_zero, List.set_cons_succ] <;> rfl) ?_
        refine Lin.done (hKF _ _ ?_)
        refine Lin.begin ?_
        refine Lin.take 43 rfl rfl (by go_simp <;> with_reducible rfl) (by simp only [Act.put, List.setIfInBounds_toArray, List.set_cons_zero, List.set_cons_succ] <;> rfl) ?_
        refine Lin.take 44 rfl rfl (by go_simp <;> with_reducible rfl) (by simp only [Act.put, List.setIfInBounds_toArray, List.set_cons_zero, List.set_cons_succ] <;> rfl) ?_
        refine Lin.take 45 rfl rfl (by go_simp <;> with_reducible rfl) (by simp only [Act.put, List.setIfInBounds_toArray, List.set_cons_zero, List.set_cons_succ] <;> rfl) ?_
        refine Lin.take 46 rfl rfl (by go_simp <;> with_reducible rfl) (by simp only [Act.put, List.setIfInBounds_toArray, List.set_cons_zero, List.set_cons_succ] <;> rfl) ?_
        refine Lin.take 47 (v := .int .i64 (lo : Int)) rfl rfl (by have h0 := hi0; have h1 := hiI; have h2 := hN6; have h3 := HLO.out; go_simp <;> (rw [IntWalk.i64_in _ (by omega)] <;> omega)) (by simp only [Act.put, List.setIfInBounds_toArray, List.set_cons_zero, List.set_cons_succ] <;> rfl) ?_
        refine Lin.take 48 rfl rfl (by go_simp <;> with_reducible rfl) (by simp only [Act.put, List.setIfInBounds_toArray, List.set_cons_zero, List.set_cons_succ] <;> rfl) ?_
        refine Lin.take 49 (v := .slice aP (e1 - lo) (c - lo)) rfl rfl (run_sliceOp rfl rfl rfl rfl Try.underlying35 (HSLR.out z5)) (by simp only [Act.put, List.setIfInBounds_toArray, List.set_cons_zero, List.set_cons_succ] <;> rfl) ?_
        refine Lin.enterS 50 rfl rfl (by go_simp <;> (first | exact ⟨rfl, rfl⟩ | rfl)) (refAppendBytes_any b4 m4 d4 _ aP (e1 - lo) (c - lo) (chunkL q i) z5 HA5.out (by have := HLG.out; have := HLD.out; have := HLI.out; have := HLNN.out; simp only [List.length_append, List.length_cons, List.length_nil, Int.toNat_natCast]; omega) (HCH.out.below (HBW.out.trans (HZ5.out.mono HBW.out.size))) (by have := chunkL_length q i; omega)) ?_
        rintro aS nS cS z6 ⟨hoS, hb6⟩ aa ha; simp only [Act.put, List.setIfInBounds_toArray, List.set_cons_zero, List.set_cons_succ] at ha; subst ha
        have HOS := Lib.hid (Sl.of_owns hoS (bv_one _)).2
        have HZ6 := Lib.hid (HZ5.out.trans (hb6.mono HZ5.out.size))
        clear hoS hb6
        refine Lin.enterS 51 rfl rfl (by go_simp <;> (first | exact ⟨rfl, rfl⟩ | rfl)) (refSealed_any aS nS cS _ z6 HOS.out (by have h2 := chunkL_length q i; have h3 := uv1 (x := (chunkL q i).length) (by omega); have := HLG.out; have := HLD.out; have := HLI.out; have := HLNN.out; simp only [List.length_append, List.length_cons, List.length_nil, Int.toNat_natCast]; omega)) ?_
        rintro aQ nQ cQ z7 ⟨hoQ, hb7⟩ aa ha; simp only [Act.put, List.setIfInBounds_toArray, List.set_cons_zero, List.set_cons_succ] at ha; subst ha
        have HOQ : Hid (z7.ownsRow w.heap.size 5 1 (.slice aQ nQ cQ) nQ (bv (sectorL gen.toNat disk.toNat i N (chunkL q i)))) := by
          refine Lib.hid (ownsRow_base (b' := w.heap.size) ?_ (Nat.le_trans HBW.out.size HZ6.out.size))
          simpa [sectorL, numsL] using hoQ
        have HZ7 := Lib.hid (HZ6.out.trans (hb7.mono HZ6.out.size))
        clear hoQ hb7 HOS
        refine Lin.takeW 52 rfl rfl (by go_simp; exact ⟨rfl, rfl⟩) (by simp only [Act.put, List.setIfInBounds_toArray, List.set_cons_zero, List.set_cons_succ] <;> rfl) ?_
        intro z8 hz8w
        have HA8 : Hid (Sl z8 1 (some ⟨z7.heap.size, 0, none⟩) 1 1 [.slice aQ nQ cQ]) := by rw [hz8w]; exact Lib.hid (Sl.single z7 _ _ rfl)
        obtain ⟨vs, hv1, hv2⟩ := (HG.out.below HZ7.out).ex
        have hlt : ((cutL gen.toNat disk.toNat q).take i).length = i := by rw [List.length_take, cutL_length]; have := HNQ.out; omega
        have HZ8 := Lib.hid (show Below wr.heap.size wr z8 by rw [hz8w]; exact HZ7.out.alloc HZ7.out.size _)
        have hv8 : z8.ownsRow w.heap.size 35 1 (.slice a1 i c1) i vs := by
          have h6 := hv1.alloc (.cells #[.slice aQ nQ cQ] 35)
          rw [hlt] at h6
          rw [hz8w]
          exact h6
        refine wpList_appendS z8 rfl (.tmp 43) (.tmp 52) rfl w.heap.size _ i vs rfl hv8 _ 1 1 [.slice aQ nQ cQ] rfl HA8.out (by omega) (Nat.le_trans HBW.out.size HZ8.out.size) ?_
        intro a7 c7 z9 hown7 hgrow7
        simp only [Act.put, List.setIfInBounds_toArray, List.set_cons_zero, List.set_cons_succ] 
        have HG7 : Hid (Gat z9 w.heap.size (.slice a7 (i + 1) c7) ((cutL gen.toNat disk.toNat q).take (i + 1))) := by
          rw [← cutL_take (by have := HNQ.out; omega)]
          rw [hz8w] at hgrow7
          have := Gat.push (tmp := .cells #[.slice aQ nQ cQ] 35) hv1 hv2 HOQ.out (w1 := z9) (v' := .slice a7 (i + 1) c7) (by rw [hlt]; exact hown7) hgrow7
          rw [HNQ.out] at this
          exact Lib.hid this
        have HZ9 : Hid (Below w.heap.size w z9) := Lib.hid ((HBW.out.trans (HZ8.out.mono HBW.out.size)).grown hgrow7 (Nat.le_trans HBW.out.size HZ8.out.size) (fun j hj => (hv8.lt j hj).1))
        clear hz8w hv1 hv2 hv8 hown7 hgrow7 hlt
        refine Lin.take 8 rfl rfl (by go_simp <;> with_reducible rfl) (by simp only [Act.put, List.setIfInBounds_toArray, List.set_cons_zero, List.set_cons_succ] <;> rfl) ?_
        refine Lin.end ?_
        simp only [Exit.inBlock, Exit.then]
        refine hKC _ _ ?_
        go_wp2
        go_roundw
        case rel => exact ⟨i + 1, a7, c7, by go_num, by omega, rfl, HG7, HZ9⟩
        case measure => simp [intOf]; omega
    · have hiI : ¬ (i : Int) < N := by omega
      obtain rfl : N = i := by omega
      go_wp2
      refine HK5.out _ _ ?_
      go_wp2
      go_ret
      refine ⟨a1, N, c1, rfl, ?_, HBW.out⟩
      have := HG.out.sls
      rwa [List.take_of_length_le (by rw [cutL_length]; have := HNQ.out; omega)] at this

set_option maxRecDepth 100000 in
set_option maxHeartbeats 3200000 in
theorem refEncode_any (l : Lb) (ad : Option Addr) (nd c : Nat) (w : World) (h : Sl w 1 ad nd c (bb l.dead)) (hok : l.ok) :
    Calls Try.prog 12 #[l.agg ad nd c] w fun e w' => ∃ a n c, e = .returned (.tuple #[.slice a n c, .int .i64 (if l.valid then 0 else 1)]) ∧ Sls w' a n c (encL l) ∧ Below w.heap.size w w' := by
  have HO := Lib.hid hok
  have HH := Lib.hid h
  clear h hok
  unfold Lb.agg
  go_enter Try.func12, Try.ntmps12
  refine wp_seq_k (fun K hK => ?_)
  refine Lin.begin ?_
  refine Lin.takeW 1 rfl rfl (by go_simp; exact ⟨rfl, rfl⟩) (by simp only [Act.put, List.setIfInBounds_toArray, List.set_cons_zero, List.set_cons_succ] <;> rfl) ?_
  intro w1 hw1
  obtain ⟨g, hg⟩ : ∃ g, g = w.heap.size := ⟨_, rfl⟩
  have L1 : Hid (LbAt l ad nd c g w1) := by rw [hw1, hg]; exact Lib.hid (LbAt.new l ad nd c 29 w)
  have HB1 : Hid (Below w.heap.size w w1) := by rw [hw1]; exact Lib.hid ((Below.refl w.heap.size w).alloc (Nat.le_refl _) _)
  have hz1 : w.heap.size ≤ w1.heap.size := HB1.out.size
  have hg1 : g < w1.heap.size := by rw [hw1, hg]; simp
  rw [← hg]
  have HG := Lib.hid hg
  obtain ⟨V, hV⟩ : ∃ V, V = decide l.valid := ⟨_, rfl⟩
  have HVB := Lib.hid hV
  clear hw1 hg hV
  refine Lin.take 2 rfl rfl (by go_simp <;> with_reducible rfl) (by simp only [Act.put, List.setIfInBounds_toArray, List.set_cons_zero, List.set_cons_succ] <;> rfl) ?_
  refine Lin.take 3 rfl rfl (by go_simp <;> with_reducible rfl) (by simp only [Act.put, List.setIfInBounds_toArray, List.set_cons_zero, List.set_cons_succ] <;> rfl) ?_
  refine Lin.done (hK _ _ ?_)
  clear hK K
  refine wp_seq_k (fun K1 hK1 => ?_)
  refine wp_seq_k (fun K hK => ?_)
  refine Lin.begin ?_
  refine Lin.mid 4 true 29 _ g 0 (l.arrv ad nd c).toList _ (by kernel_rfl) rfl rfl (fun _ => rfl) L1.out.range Try.underlying29 rfl (by kernel_rfl) (by simp only [Act.put, List.setIfInBounds_toArray, List.set_cons_zero, List.set_cons_succ] <;> rfl) ?_
  refine Lin.enter 5 rfl rfl (by simp only [gv_true]; go_simp <;> (first | exact ⟨rfl, rfl⟩ | rfl)) (v := .bool V) (by rw [HVB.out]; exact refValid_any l ad nd c _ (HH.out.below HB1.out) HO.out) (by simp only [Act.put, List.setIfInBounds_toArray, List.set_cons_zero, List.set_cons_succ] <;> rfl) ?_
  intro w2 hb2
  have HB2 := Lib.hid (HB1.out.trans (hb2.mono hz1)); have L2 := Lib.hid (L1.out.below hb2 hg1); have hg2 : g < w2.heap.size := Nat.lt_of_lt_of_le hg1 hb2.size
  clear hb2
  refine Lin.take 6 (v := .bool (!V)) rfl rfl (by go_simp <;> with_reducible rfl) (by simp only [Act.put, List.setIfInBounds_toArray, List.set_cons_zero, List.set_cons_succ] <;> rfl) ?_
  refine Lin.done (hK _ _ ?_)
  refine wp_cond_split rfl (fun ht => ?_) (fun hf => ?_)
  · refine wp_seq_k (fun K2 hK2 => ?_)
    refine Lin.begin ?_
    refine Lin.take 2 rfl rfl (by go_simp <;> with_reducible rfl) (by simp only [Act.put, List.setIfInBounds_toArray, List.set_cons_zero, List.set_cons_succ] <;> rfl) ?_
    refine Lin.take 3 rfl rfl (by go_simp <;> with_reducible rfl) (by simp only [Act.put, List.setIfInBounds_toArray, List.set_cons_zero, List.set_cons_succ] <;> rfl) ?_
    refine Lin.done (hK2 _ _ ?_)
    refine wp_ret ?_
    simp only [Exit.then]
    refine bodyPost_ret (results_tmp2 rfl _ _ _) rfl ?_
    have hnv : ¬ l.valid := by
      rw [HVB.out] at ht
      simpa using ht
    refine ⟨none, 0, 0, ?_, ?_, HB2.out⟩
    · rw [if_neg hnv]; rfl
    · unfold encL
      rw [if_neg hnv]
      exact ⟨[], Sl.nilv _ _, rfl, fun i m hm => by simp at hm⟩
  have HV : Hid l.valid := by
    rw [HVB.out] at hf
    exact Lib.hid (by simpa using hf)
  clear hf HVB
  refine wp_skip ?_
  refine hK1 _ _ ?_
  clear hK1 K1 hK K
  refine wp_seq_k (fun K hK => ?_)
  have hKK := Lib.hid hK
  clear hK
  have HB : Hid (Below w2.heap.size w2 w2.drew) := Lib.hid (Below.refl _ _).drew
  have hs : w2.heap.size ≤ w2.drew.heap.size := Nat.le_refl _
  refine Rest.begin 9 (by kernel_rfl) (by kernel_rfl) ?_
  refine Rest.take 0 7 rfl (by kernel_rfl) (by kernel_rfl) (by kernel_rfl) (fun _ _ _ h => h) (by rfl) (by rfl) (by intro x hx; go_simp <;> with_reducible rfl) (by simp only [Act.put, List.setIfInBounds_toArray, List.set_cons_zero, List.set_cons_succ] <;> rfl) ?_
  refine Rest.take 1 8 rfl (by kernel_rfl) (by kernel_rfl) (by kernel_rfl) (fun _ _ _ h => h) (by rfl) (by rfl) (by intro x hx; have hc := (L2.out.below (later HB hs hx) hg2).k2; go_simp <;> with_reducible rfl) (by simp only [Act.put, List.setIfInBounds_toArray, List.set_cons_zero, List.set_cons_succ] <;> rfl) ?_
  refine Rest.take 2 9 rfl (by kernel_rfl) (by kernel_rfl) (by kernel_rfl) (fun _ _ _ h => h) (by rfl) (by rfl) (by intro x hx; go_simp <;> with_reducible rfl) (by simp only [Act.put, List.setIfInBounds_toArray, List.set_cons_zero, List.set_cons_succ] <;> rfl) ?_
  refine Rest.take 3 10 rfl (by kernel_rfl) (by kernel_rfl) (by kernel_rfl) (fun _ _ _ h => h) (by rfl) (by rfl) (by intro x hx; have hc := (L2.out.below (later HB hs hx) hg2).k1; go_simp <;> with_reducible rfl) (by simp only [Act.put, List.setIfInBounds_toArray, List.set_cons_zero, List.set_cons_succ] <;> rfl) ?_
  refine Rest.takeMid 4 11 rfl (by kernel_rfl) (by kernel_rfl) (by kernel_rfl) 29 _ g 0 (l.arrv ad nd c).toList _ (fun _ _ _ h => h) (by rfl) rfl rfl (fun x hx => (L2.out.below (later HB hs hx) hg2).range) Try.underlying29 rfl (by kernel_rfl) rfl (by simp only [Act.put, List.setIfInBounds_toArray, List.set_cons_zero, List.set_cons_succ] <;> rfl) ?_
  refine Rest.step 5 rfl (by kernel_rfl) (by rfl) (fun K hK => ?_)
  go_simp
  go_at_call 26
  refine (refPayload_any l ad nd c _ (HH.out.below (HB2.out.trans (HB.out.mono HB2.out.size))) HO.out HV.out).mono ?_
  rintro e wn ⟨aP, nP, cP, rfl, hsP, hb⟩
  refine hK.out _ _ hb ?_
  clear hK K
  have HB := Lib.hid (HB.out.trans (hb.mono hs))
  have hs := Nat.le_trans hs hb.size
  have HSP := Lib.hid hsP
  clear hsP hb
  refine Rest.step 6 rfl (by kernel_rfl) (by rfl) (fun K hK => ?_)
  go_simp
  go_at_call 25
  refine (refCut_any l.gen l.dk aP nP cP (payloadL l) _ HSP.out (by have := payloadL_length HO.out HV.out; omega) HO.out.gen0 HO.out.gen1 HV.out.2.1 (by have h1 := HV.out.2.2.1; have h2 : l.cd ≤ 60 := HV.out.1.2.1; omega)).mono ?_
  rintro e wn2 ⟨aR, nR, cR, rfl, hsR, hb⟩
  refine hK.out _ _ hb ?_
  clear hK K
  have HB := Lib.hid (HB.out.trans (hb.mono hs))
  have hs := Nat.le_trans hs hb.size
  have HSR := Lib.hid hsR
  clear hsR hb
  refine Rest.take 7 2 rfl (by kernel_rfl) (by kernel_rfl) (by kernel_rfl) (fun _ _ _ h => h) (by rfl) (by rfl) (by intro x hx; go_simp <;> with_reducible rfl) (by simp only [Act.put, List.setIfInBounds_toArray, List.set_cons_zero, List.set_cons_succ] <;> rfl) ?_
  refine Rest.take 8 3 rfl (by kernel_rfl) (by kernel_rfl) (by kernel_rfl) (fun _ _ _ h => h) (by rfl) (by rfl) (by intro x hx; go_simp <;> with_reducible rfl) (by simp only [Act.put, List.setIfInBounds_toArray, List.set_cons_zero, List.set_cons_succ] <;> rfl) ?_
  refine Rest.done (by kernel_rfl) ?_
  refine hKK.out _ _ ?_
  refine wp_ret ?_
  refine bodyPost_ret (results_tmp2 rfl _ _ _) rfl ?_
  refine ⟨aR, nR, cR, ?_, ?_, HB2.out.trans (HB.out.mono HB2.out.size)⟩
  · first | rfl | (rw [if_pos HV.out]; rfl)
  · unfold encL
    rw [if_pos HV.out]
    exact HSR.out

end Go.Proofs.Ytjjknjkpkoeelaa
