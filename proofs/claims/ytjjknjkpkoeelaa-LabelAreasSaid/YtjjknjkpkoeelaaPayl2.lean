/- Labels: the payload as the code writes it. (Printed by payl2.py.) -/
import Derived.Test.YtjjknjkpkoeelaaPayl
set_option linter.unusedVariables false
set_option linter.unusedSimpArgs false
namespace Go.Proofs.Ytjjknjkpkoeelaa
open Go Go.RowKit Go.Lib

/-- Bytes in a block that may be written. -/
structure Wb (z : World) (q : Nat) (l : List UInt8) : Prop where
  cell : ∀ k (hk : k < l.length), z.cell? ⟨q, k, none⟩ = some (.int .u8 (l[k].toNat : Int))
  free : ∀ k, k < l.length → z.frozen? ⟨q, k, none⟩ = false

theorem Wb.of_owns {z : World} {base q m c : Nat} {e : TypeId} {l : List UInt8} (h : z.ownsRow base e 1 (.slice (some ⟨q, 0, none⟩) m c) m (bv l)) : Wb z q l := by
  constructor
  · intro k hk
    have := h.cells (g := q) rfl k _ (bv_get l k hk)
    rwa [Addr.add_lit, Nat.zero_add] at this
  · intro k hk
    rcases h.2 with ⟨hv, _⟩ | ⟨g, cap, cur, hv, _, hg, _⟩
    · simp at hv
    · simp only [Value.slice.injEq, Option.some.injEq, Addr.mk.injEq] at hv
      obtain ⟨⟨rfl, -, -⟩, -, -⟩ := hv
      unfold World.frozen?
      rw [hg]
      simp
theorem Wb.below {z z' : World} {q B : Nat} {l : List UInt8} (h : Wb z q l) (hb : Below B z z') (hq : q < B) : Wb z' q l :=
  ⟨fun k hk => below_cell hb hq (h.cell k hk), fun k hk => (hb.frozen (p := ⟨q, k, none⟩) hq).trans (h.free k hk)⟩
theorem Wb.drew {z : World} {q : Nat} {l : List UInt8} (h : Wb z q l) : Wb z.drew q l := ⟨h.cell, h.free⟩
theorem Wb.set {z : World} {q k : Nat} {l : List UInt8} (h : Wb z q l) (hk : k < l.length) (b : UInt8) (x : Int) (hx : x = (b.toNat : Int)) : Wb (z.setCell ⟨q, k, none⟩ (.int .u8 x)) q (l.set k b) := by
  subst hx
  constructor
  · intro j hj
    rw [List.length_set] at hj
    by_cases hjk : k = j
    · subst hjk
      rw [List.getElem_set_self]
      exact World.cell?_setCell_same _ _ _ (h.cell k hk)
    · rw [List.getElem_set_ne hjk, World.cell?_setCell_other _ _ _ _ (by intro e; injection e with e1 e2; exact hjk e2)]
      exact h.cell j hj
  · intro j hj
    rw [List.length_set] at hj
    rw [World.frozen?_setCell]
    exact h.free j hj
theorem Wb.sl {z : World} {q m c : Nat} {l : List UInt8} (h : Wb z q l) (hm : l.length = m) (hc : m ≤ c) (hx : c ≤ maxLen) : Sl z 1 (some ⟨q, 0, none⟩) m c (bv l) := by
  refine ⟨by rw [bv_length, Nat.mul_one]; exact hm, hc, hx, fun e => (by cases e), fun ad e j u hu => ?_, bv_one l⟩
  cases e
  have hj : j < l.length := by rw [← bv_length]; exact (List.getElem?_eq_some_iff.1 hu).1
  rw [bv_get l j hj] at hu
  cases hu
  rw [Addr.add_lit, Nat.zero_add]
  exact h.cell j hj

theorem LbAt.cfgCell {l : Lb} {ad : Option Addr} {nd c g : Nat} {z : World} (h : LbAt l ad nd c g z) (hc : l.cfg) {i : Nat} (hi : i < l.cfgN.length) : z.cell? ⟨g, 4 + i, none⟩ = some (.int .i64 ((l.cfgN[i] : Nat) : Int)) := by
  obtain ⟨k0, k1, k2, k3, k4, k5, k6, k7, k8, k9, k10, k11, k12, k13, k14, k15, k16, k17, k18⟩ := h
  unfold Lb.cfg cfgOk geoOk at hc
  have hi' : i < 11 := hi
  have e : i = 0 ∨ i = 1 ∨ i = 2 ∨ i = 3 ∨ i = 4 ∨ i = 5 ∨ i = 6 ∨ i = 7 ∨ i = 8 ∨ i = 9 ∨ i = 10 := by omega
  have hn : ∀ x : Int, 0 ≤ x → ((x.toNat : Nat) : Int) = x := fun x h => Int.toNat_of_nonneg h
  rcases e with rfl | rfl | rfl | rfl | rfl | rfl | rfl | rfl | rfl | rfl | rfl <;> (simp only [Lb.cfgN, List.getElem_cons_zero, List.getElem_cons_succ, Nat.add_zero, Nat.reduceAdd]; rw [hn _ (by omega)]; assumption)

set_option maxRecDepth 100000 in
set_option maxHeartbeats 1600000 in
theorem payload_any (l : Lb) (ad : Option Addr) (nd c : Nat) (w : World) (h : Sl w 1 ad nd c (bb l.dead)) (hok : l.ok) (hv : l.valid) :
    Calls Try.prog 31 #[l.agg ad nd c] w fun e w' => ∃ a' n' c', e = .returned (.slice a' n' c') ∧ Sl w' 1 a' n' c' (bv (payloadL l)) ∧ Below w.heap.size w w' := by
  have HO := Lib.hid hok
  have HV := Lib.hid hv
  have HH := Lib.hid h
  have HN := Lib.hid (show nd = l.dead.length by have := h.len; rw [bb_length, Nat.mul_one] at this; omega)
  have HCAP := Lib.hid h.cap
  have HND : Hid (nd ≤ 60) := Lib.hid (by have h1 := HN.out; have h2 := hv.2.2.2.2.2.2.1; have h3 : l.cd ≤ 60 := hv.1.2.1; omega)
  have HN4 : Hid (∀ x ∈ [l.arr.toNat, l.dk.toNat, l.gen.toNat, l.prev.toNat], x < 18446744073709551616) := Lib.hid (by
    have h0 := hok.arr1; have h1 := hv.2.2.1; have h2 := hok.gen1; have h3 := hok.prev1; have h4 : l.cd ≤ 60 := hv.1.2.1
    intro x hx; simp only [List.mem_cons, List.not_mem_nil, or_false] at hx; rcases hx with rfl | rfl | rfl | rfl <;> omega)
  have HN3 : Hid (∀ x ∈ [l.blob.toNat, l.sum.toNat, l.root.toNat], x < 18446744073709551616) := Lib.hid (by
    have h0 := hok.sum1; have h1 := hok.root1; have h2 := hok.blob1
    intro x hx; simp only [List.mem_cons, List.not_mem_nil, or_false] at hx; rcases hx with rfl | rfl | rfl <;> omega)
  clear h hok hv
  unfold Lb.agg
  go_enter Try.func31, Try.ntmps31
  refine wp_seq_k (fun K hK => ?_)
  refine Lin.begin ?_
  refine Lin.takeW 1 rfl rfl (by go_simp; exact ⟨rfl, rfl⟩) (by simp only [Act.put, List.setIfInBounds_toArray, List.set_cons_zero, List.set_cons_succ] <;> rfl) ?_
  intro w1 hw1
  obtain ⟨g, hg⟩ : ∃ g, g = w.heap.size := ⟨_, rfl⟩
  have L1 : LbAt l ad nd c g w1 := by rw [hw1, hg]; exact LbAt.new l ad nd c 29 w
  have HB1 : Hid (Below w.heap.size w w1) := by rw [hw1]; exact Lib.hid ((Below.refl w.heap.size w).alloc (Nat.le_refl _) _)
  have hz1 : w.heap.size ≤ w1.heap.size := HB1.out.size
  have hg1 : g < w1.heap.size := by rw [hw1, hg]; simp
  rw [← hg]
  have HG := Lib.hid hg
  clear hw1 hg
  refine Lin.take 2 rfl rfl (by go_simp <;> with_reducible rfl) (by simp only [Act.put, List.setIfInBounds_toArray, List.set_cons_zero, List.set_cons_succ] <;> rfl) ?_
  refine Lin.done (hK _ _ ?_)
  clear hK K
  refine wp_seq_k (fun K hK => ?_)
  refine Lin.begin ?_
  refine Lin.take 10 rfl rfl (by go_simp <;> with_reducible rfl) (by simp only [Act.put, List.setIfInBounds_toArray, List.set_cons_zero, List.set_cons_succ] <;> rfl) ?_
  refine Lin.take 11 rfl rfl (by have k0 := L1.k0; go_simp <;> with_reducible rfl) (by simp only [Act.put, List.setIfInBounds_toArray, List.set_cons_zero, List.set_cons_succ] <;> rfl) ?_
  refine Lin.take 12 rfl rfl (by go_simp <;> with_reducible rfl) (by simp only [Act.put, List.setIfInBounds_toArray, List.set_cons_zero, List.set_cons_succ] <;> rfl) ?_
  refine Lin.take 13 rfl rfl (by have k1 := L1.k1; go_simp <;> with_reducible rfl) (by simp only [Act.put, List.setIfInBounds_toArray, List.set_cons_zero, List.set_cons_succ] <;> rfl) ?_
  refine Lin.take 14 (v := .int .u64 l.dk) rfl rfl (by have h0 := HV.out.2.1; have h1 := HV.out.2.2.1; have h2 := HO.out.cd1; go_simp <;> (rw [IntKind.wrap_u64]; omega)) (by simp only [Act.put, List.setIfInBounds_toArray, List.set_cons_zero, List.set_cons_succ] <;> rfl) ?_
  refine Lin.take 15 rfl rfl (by go_simp <;> with_reducible rfl) (by simp only [Act.put, List.setIfInBounds_toArray, List.set_cons_zero, List.set_cons_succ] <;> rfl) ?_
  refine Lin.take 16 rfl rfl (by have k2 := L1.k2; go_simp <;> with_reducible rfl) (by simp only [Act.put, List.setIfInBounds_toArray, List.set_cons_zero, List.set_cons_succ] <;> rfl) ?_
  refine Lin.take 17 rfl rfl (by go_simp <;> with_reducible rfl) (by simp only [Act.put, List.setIfInBounds_toArray, List.set_cons_zero, List.set_cons_succ] <;> rfl) ?_
  refine Lin.take 18 rfl rfl (by have k3 := L1.k3; go_simp <;> with_reducible rfl) (by simp only [Act.put, List.setIfInBounds_toArray, List.set_cons_zero, List.set_cons_succ] <;> rfl) ?_
  refine Lin.takeW 19 rfl rfl (by go_simp; exact ⟨rfl, rfl⟩) (by simp only [Act.put, List.setIfInBounds_toArray, List.set_cons_zero, List.set_cons_succ] <;> rfl) ?_
  intro w2 hw2
  have HS2 : Hid (Sl w2 1 (some ⟨w1.heap.size, 0, none⟩) 4 4 (uc [l.arr.toNat, l.dk.toNat, l.gen.toNat, l.prev.toNat])) := by
    have := Sl.lit w1 #[.int .u64 l.arr, .int .u64 l.dk, .int .u64 l.gen, .int .u64 l.prev] 22 4 rfl (by decide) (by intro u hu; simp at hu; rcases hu with rfl | rfl | rfl | rfl <;> rfl)
    rw [hw2]
    have e : uc [l.arr.toNat, l.dk.toNat, l.gen.toNat, l.prev.toNat] = [.int .u64 l.arr, .int .u64 l.dk, .int .u64 l.gen, .int .u64 l.prev] := by
      have h0 := HO.out.arr0; have h1 := HV.out.2.1; have h2 := HO.out.gen0; have h3 := HO.out.prev0
      simp only [uc, List.map_cons, List.map_nil, Int.toNat_of_nonneg h0, Int.toNat_of_nonneg h1, Int.toNat_of_nonneg h2, Int.toNat_of_nonneg h3]
    rw [e]
    exact Lib.hid this
  have L2 : LbAt l ad nd c g w2 := L1.below (by rw [hw2]; exact (Below.refl w1.heap.size w1).alloc (Nat.le_refl _) _) hg1
  have HB2 : Hid (Below w.heap.size w w2) := by rw [hw2]; exact Lib.hid (HB1.out.alloc hz1 _)
  have hg2 : g < w2.heap.size := by rw [hw2]; simp; omega
  clear hw2 L1
  refine Lin.enterS 20 rfl rfl (by go_simp <;> exact ⟨rfl, rfl⟩) (numbers_any none 0 0 [] _ 4 4 [l.arr.toNat, l.dk.toNat, l.gen.toNat, l.prev.toNat] _ (by simpa [bv] using Sl.nilv w2 1) HS2.out HN4.out (by simp)) ?_
  rintro a3 n3 c3 w3 ⟨hs3, hb3⟩ aa ha; simp only [Act.put, List.setIfInBounds_toArray, List.set_cons_zero, List.set_cons_succ] at ha; subst ha
  rw [List.nil_append] at hs3
  have HS3 := Lib.hid hs3
  have HB3 := Lib.hid (HB2.out.trans (hb3.mono HB2.out.size)); have L3 := L2.below hb3 hg2; have hg3 : g < w3.heap.size := Nat.lt_of_lt_of_le hg2 hb3.size
  clear hb3 L2 hs3 HS2
  refine Lin.take 3 rfl rfl (by go_simp <;> with_reducible rfl) (by simp only [Act.put, List.setIfInBounds_toArray, List.set_cons_zero, List.set_cons_succ] <;> rfl) ?_
  refine Lin.done (hK _ _ ?_)
  clear hK K
  refine wp_seq_k (fun K hK => ?_)
  refine wp_seq_k (fun K1 hK1 => ?_)
  refine Lin.begin ?_
  refine Lin.take 21 rfl rfl (by go_simp <;> with_reducible rfl) (by simp only [Act.put, List.setIfInBounds_toArray, List.set_cons_zero, List.set_cons_succ] <;> rfl) ?_
  refine Lin.enterS 22 rfl rfl (by go_simp <;> exact ⟨rfl, rfl⟩) ((fields_any g 4 w3).mono (R' := fun e w' => ∃ a1 n1 c1, e = .returned (.slice a1 n1 c1) ∧ (n1 = 11 ∧ Sl w' 1 a1 n1 c1 (ptrs g 4) ∧ Below w3.heap.size w3 w')) (by rintro e w4 ⟨a, c, rfl, h1, h2⟩; exact ⟨a, 11, c, rfl, rfl, h1, h2⟩)) ?_
  rintro a4 _ c4 w4 ⟨rfl, hs4, hb4⟩ aa ha; simp only [Act.put, List.setIfInBounds_toArray, List.set_cons_zero, List.set_cons_succ] at ha; subst ha
  have HS4 := Lib.hid hs4
  have HS3 := Lib.hid (HS3.out.below hb4)
  have HB4 := Lib.hid (HB3.out.trans (hb4.mono HB3.out.size)); have L4 := L3.below hb4 hg3; have hg4 : g < w4.heap.size := Nat.lt_of_lt_of_le hg3 hb4.size
  clear hb4 L3 hs4
  refine Lin.take 23 rfl rfl (by go_simp <;> with_reducible rfl) (by simp only [Act.put, List.setIfInBounds_toArray, List.set_cons_zero, List.set_cons_succ] <;> rfl) ?_
  refine Lin.take 24 rfl rfl (by go_simp <;> with_reducible rfl) (by simp only [Act.put, List.setIfInBounds_toArray, List.set_cons_zero, List.set_cons_succ] <;> rfl) ?_
  refine Lin.done (hK1 _ _ ?_)
  clear hK1 K1
  have hc11 : l.cfgN.length = 11 := rfl
  have HC11 := Lib.hid hc11
  have hcap4 := HS4.out.cap
  have HK := Lib.hid hK
  clear hc11 hK
  go_wp2
  go_loopw [3, 24] (fun bvv iv wr => ∃ (i : Nat) (a1 : Option Addr) (n1 c1 : Nat), iv = .int .i64 (i : Int) ∧ i ≤ 11 ∧ bvv = .slice a1 n1 c1 ∧ Hid (Sl wr 1 a1 n1 c1 (bv (numsL ([l.arr.toNat, l.dk.toNat, l.gen.toNat, l.prev.toNat] ++ l.cfgN.take i)))) ∧ Hid (Below w4.heap.size w4 wr)) (fun _ iv _ => 11 - (intOf iv).toNat)
  case atStart => exact ⟨0, a3, n3, c3, rfl, by omega, rfl, Lib.hid (by simpa using HS3.out), Lib.hid (Below.refl _ _)⟩
  case round =>
    obtain ⟨i, a1, n1, c1, rfl, hin, rfl, hs1, hB⟩ := hrel
    by_cases hi : i < 11
    · have hiI : (i : Int) < 11 := by omega
      have hi0 : (0 : Int) ≤ (i : Int) := by omega
      obtain ⟨b, off, ha, hcell⟩ := (HS4.out.below hB.out).at (k := i) (by simp [ptrs]; omega)
      subst ha
      have hc := hcell i (by simp [ptrs]; omega)
      simp only [ptrs, List.getElem_map, List.getElem_range] at hc
      clear hcell
      have hcn := (L4.below hB.out hg4).cfgCell HV.out.1 (i := i) (by rw [HC11.out]; exact hi)
      obtain ⟨x, hx⟩ : ∃ x, x = l.cfgN[i]'(by rw [HC11.out]; exact hi) := ⟨_, rfl⟩
      rw [← hx] at hcn
      have hx32 : x < 4294967296 := by rw [hx]; exact cfgN_small HV.out.1 _ (List.getElem_mem _)
      have hxI : ((x : Nat) : Int) < 4294967296 := by omega
      have hnext : Hid (numsL ([l.arr.toNat, l.dk.toNat, l.gen.toNat, l.prev.toNat] ++ l.cfgN.take i) ++ numsL [x] = numsL ([l.arr.toNat, l.dk.toNat, l.gen.toNat, l.prev.toNat] ++ l.cfgN.take (i + 1))) := by
        rw [← numsL_append, List.append_assoc, hx, ← List.take_succ_eq_append_getElem]
        exact Lib.hid rfl
      have hlen : (numsL ([l.arr.toNat, l.dk.toNat, l.gen.toNat, l.prev.toNat] ++ l.cfgN.take i)).length ≤ 1000 := by
        rw [numsL_append, List.length_append]
        have h1 := numsL_length HN4.out
        have h2 := numsL_small (ns := l.cfgN.take i) fun y hy => cfgN_small HV.out.1 y (List.mem_of_mem_take hy)
        rw [List.length_take] at h2
        simp only [List.length_cons, List.length_nil] at h1
        omega
      have HL := Lib.hid hlen
      clear hlen hx
      go_wp2_with (go_at_call 32; refine (numbers_any a1 n1 c1 _ _ _ _ [x] _ (hs1.out.below ((Below.refl _ _).alloc (Nat.le_refl _) _)) (Sl.single _ _ _ rfl) (by intro y hy; simp at hy; omega) (by have := HL.out; simp only [List.length_cons, List.length_nil]; omega)).mono ?_; rintro e w5 ⟨a5, n5, c5, rfl, hs5, hb5⟩; rw [hnext.out] at hs5; have HS5 := Lib.hid hs5; have HB5 := Lib.hid ((hB.out.alloc hB.out.size _).trans (hb5.mono (by simp; have := hB.out.size; omega))); clear hs5 hb5)
      go_roundw
      case rel => exact ⟨i + 1, a5, n5, c5, by go_num, by omega, rfl, HS5, HB5⟩
      case measure => simp [intOf]; omega
    · have hiI : ¬ (i : Int) < 11 := by omega
      obtain rfl : i = 11 := by omega
      have HS5 := Lib.hid hs1.out
      rw [List.take_of_length_le (by rw [HC11.out]; exact Nat.le_refl _)] at HS5
      clear hs1
      go_wp2
      refine HK.out _ _ ?_
      clear HK
      rename World => w5
      have L5 := L4.below hB.out hg4
      have HB5 := Lib.hid (HB4.out.trans (hB.out.mono HB4.out.size))
      have hg5 : g < w5.heap.size := Nat.lt_of_lt_of_le hg4 hB.out.size
      clear hB L4 HB4 HS4 HS3 HB3 HB2 HB1
      obtain ⟨m, hm⟩ : ∃ m, m = (nd + 7) / 8 := ⟨_, rfl⟩
      have HM := Lib.hid hm
      clear hm
      refine wp_seq_k (fun K hK => ?_)
      refine Lin.begin ?_
      refine Lin.take 36 rfl rfl (by go_simp <;> with_reducible rfl) (by simp only [Act.put, List.setIfInBounds_toArray, List.set_cons_zero, List.set_cons_succ] <;> rfl) ?_
      refine Lin.take 37 rfl rfl (by have k15 := L5.k15; go_simp <;> with_reducible rfl) (by simp only [Act.put, List.setIfInBounds_toArray, List.set_cons_zero, List.set_cons_succ] <;> rfl) ?_
      refine Lin.take 38 rfl rfl (by go_simp <;> with_reducible rfl) (by simp only [Act.put, List.setIfInBounds_toArray, List.set_cons_zero, List.set_cons_succ] <;> rfl) ?_
      refine Lin.take 39 (v := .int .i64 ((nd : Int) + 7)) rfl rfl (by have h1 := HND.out; go_simp <;> exact IntWalk.i64_in _ (by omega)) (by simp only [Act.put, List.setIfInBounds_toArray, List.set_cons_zero, List.set_cons_succ] <;> rfl) ?_
      refine Lin.take 40 (v := .int .i64 (m : Int)) rfl rfl (by have h1 := HND.out; have h2 := HM.out; go_simp <;> (first | rw [IntWalk.i64_quo _ _ (by omega)] | rw [IntWalk.i64_in _ (by omega)]) <;> omega) (by simp only [Act.put, List.setIfInBounds_toArray, List.set_cons_zero, List.set_cons_succ] <;> rfl) ?_
      obtain ⟨i0, hi, hz0, hz1, hz2⟩ := info_parts info_u8
      refine wpList_make_full w5 rfl (.tmp 40) (.tmp 40) 35 rfl w5.heap.size 5 i0 (.int .u8 0) 1 Try.underlying35 hi hz0 hz1 .i64 .i64 _ _ m rfl rfl rfl rfl (by have h1 := HND.out; have h2 := HM.out; rw [hz2]; omega) (by have h1 := HND.out; have h2 := HM.out; unfold maxLen; omega) (Nat.le_refl _) ?_
      intro w6 hown6 hgrow6
      simp only [Act.put, List.setIfInBounds_toArray, List.set_cons_zero, List.set_cons_succ] 
      obtain ⟨q, hq⟩ : ∃ q, q = w5.heap.size := ⟨_, rfl⟩
      rw [← hq] at hown6 ⊢
      have HQ := Lib.hid hq
      clear hq
      refine Lin.takeW 6 rfl rfl (by go_simp; exact ⟨rfl, rfl⟩) (by simp only [Act.put, List.setIfInBounds_toArray, List.set_cons_zero, List.set_cons_succ] <;> rfl) ?_
      intro w7 hw7
      refine Lin.store rfl (by go_simp <;> rfl) (by rfl) ?_
      intro w8 hw8
      refine Lin.done (hK _ _ ?_)
      have hz : (madeCells (Value.int .u8 0).cells (m * 1)).toList = bv (dbits l.dead 0) := by
        rw [show (Value.int .u8 0).cells = #[.int .u8 0] from rfl, toList_madeCells_one, Nat.mul_one]
        have hmm := HM.out; have hnn := HN.out
        rw [show dbits l.dead 0 = List.replicate ((l.dead.length + 7) / 8) 0 from rfl, ← hnn, ← hmm]
        simp [bv]
      rw [hz] at hown6
      have hW6 := Wb.of_owns hown6
      have hb6 : Below w5.heap.size w5 w6 := (Below.refl _ w5).grown hgrow6 (Nat.le_refl _) (by simp)
      have hq6 : w5.heap.size ≤ w6.heap.size := hb6.size
      have hqlt : q < w6.heap.size := by have := (hown6.lt q rfl).2; exact this
      obtain ⟨bx, hbx⟩ : ∃ bx, bx = w6.heap.size := ⟨_, rfl⟩
      rw [← hbx]
      have hX8 : Hid (w8.cell? ⟨bx, 0, none⟩ = some (.slice (some ⟨q, 0, none⟩) m m)) := by rw [hw8, hbx]; exact Lib.hid (by rw [cell_of_row _ _ _ _ _ _ (heap_alloc_new w6 _)]; rfl)
      have hB68 : Below w6.heap.size w6 w8 := by rw [hw8]; exact (Below.refl _ _).alloc (Nat.le_refl _) _
      have hW8 := Lib.hid (hW6.below hB68 hqlt)
      have hB8 := Lib.hid (show Below w5.heap.size w5 w8 from hb6.trans (hB68.mono hq6))
      have hbx8 : bx < w8.heap.size := by rw [hw8, hbx]; simp
      have hqbx : q < bx := by rw [hbx]; exact hqlt
      have HL5 := Lib.hid L5
      clear hw7 hw8 hown6 hgrow6 hz hW6 hb6 hB68 hbx L5 hqlt hi hz0 hz1 hz2
      refine wp_seq_k (fun K hK => ?_)
      refine Lin.begin ?_
      refine Lin.take 42 rfl rfl (by go_simp <;> with_reducible rfl) (by simp only [Act.put, List.setIfInBounds_toArray, List.set_cons_zero, List.set_cons_succ] <;> rfl) ?_
      refine Lin.take 7 rfl rfl (by go_simp <;> with_reducible rfl) (by simp only [Act.put, List.setIfInBounds_toArray, List.set_cons_zero, List.set_cons_succ] <;> rfl) ?_
      refine Lin.done (hK _ _ ?_)
      refine wp_seq_k (fun K hK => ?_)
      refine wp_seq_k (fun K1 hK1 => ?_)
      have L8 := HL5.out.below hB8.out hg5
      refine Lin.begin ?_
      refine Lin.take 43 rfl rfl (by go_simp <;> with_reducible rfl) (by simp only [Act.put, List.setIfInBounds_toArray, List.set_cons_zero, List.set_cons_succ] <;> rfl) ?_
      refine Lin.take 44 rfl rfl (by have k15 := L8.k15; go_simp <;> with_reducible rfl) (by simp only [Act.put, List.setIfInBounds_toArray, List.set_cons_zero, List.set_cons_succ] <;> rfl) ?_
      refine Lin.take 45 rfl rfl (by go_simp <;> with_reducible rfl) (by simp only [Act.put, List.setIfInBounds_toArray, List.set_cons_zero, List.set_cons_succ] <;> rfl) ?_
      refine Lin.take 46 rfl rfl (by go_simp <;> with_reducible rfl) (by simp only [Act.put, List.setIfInBounds_toArray, List.set_cons_zero, List.set_cons_succ] <;> rfl) ?_
      refine Lin.done (hK1 _ _ ?_)
      clear L8
      have HK := Lib.hid hK
      clear hK
      go_wp2
      go_loopw [46] (fun iv wr => ∃ (i : Nat), iv = .int .i64 (i : Int) ∧ i ≤ nd ∧ Hid (Wb wr q (dbits l.dead i)) ∧ Hid (wr.cell? ⟨bx, 0, none⟩ = some (.slice (some ⟨q, 0, none⟩) m m)) ∧ Hid (Below w5.heap.size w5 wr)) (fun iv _ => nd - (intOf iv).toNat)
      case atStart => exact ⟨0, rfl, by omega, hW8, hX8, hB8⟩
      case round =>
        clear hW8 hX8 hB8
        obtain ⟨i, rfl, hin, hW, hX, hB⟩ := hrel
        by_cases hi : i < nd
        · have hiI : (i : Int) < nd := by omega
          have hi0 : (0 : Int) ≤ (i : Int) := by omega
          have hik : i < l.dead.length := by have := HN.out; omega
          have hcap := HCAP.out
          obtain ⟨b, off, ha, hcell⟩ := (HH.out.below (HB5.out.trans (hB.out.mono HB5.out.size))).at (k := i) (by rw [bb_length]; exact hik)
          have hc := hcell i (by rw [bb_length]; exact hik)
          simp only [bb, List.getElem_map] at hc
          clear hcell
          have hi6 : i ≤ 1000000 := by have := HND.out; omega
          have hkl : i / 8 < (dbits l.dead i).length := by rw [dbits_length]; omega
          have hkm : i / 8 < m := by have h1 := HM.out; have h2 := HN.out; omega
          have hy := hW.out.cell (i / 8) hkl
          have hlow := dbits_low' l.dead hik
          rw [List.getD_eq_getElem?_getD, List.getElem?_eq_getElem hkl, Option.getD_some] at hlow
          obtain ⟨y, hyv⟩ : ∃ y, y = (dbits l.dead i)[i / 8].toNat := ⟨_, rfl⟩
          rw [← hyv] at hy hlow
          have hpw := pow_8 (k := i % 8) (by omega)
          obtain ⟨pw, hpwv⟩ : ∃ pw, pw = 2 ^ (i % 8) := ⟨_, rfl⟩
          rw [← hpwv] at hlow hpw
          have HS := Lib.hid (set_any i bx q m m y (i / 8) (i % 8) pw wr hi6 hX.out (Nat.le_refl _) rfl rfl hpwv hy (hW.out.free _ hkl) hkm hlow (by omega))
          have hq' := HQ.out
          subst ha
          cases hbit : l.dead[i] with
          | true =>
            rw [hbit] at hc
            have hnx : Hid (dbits l.dead (i + 1) = (dbits l.dead i).set (i / 8) (UInt8.ofNat (y + pw))) := by
              rw [show dbits l.dead (i + 1) = dstep l.dead (dbits l.dead i) i from rfl]
              unfold dstep
              rw [if_pos (by rw [List.getElem?_eq_getElem hik, hbit]), List.getD_eq_getElem?_getD, List.getElem?_eq_getElem hkl, Option.getD_some, ← hyv, ← hpwv]
              exact Lib.hid rfl
            have HLOW := Lib.hid (show y + pw < 256 by omega)
            have HKL := Lib.hid hkl
            have HQ' := Lib.hid (show w5.heap.size ≤ q by omega)
            clear hbit hy hlow hyv hq' hpw hpwv hkl hkm
            go_wp2_with (go_at_call 53; refine HS.out.mono ?_; rintro e wz ⟨⟨v, rfl⟩, hwz⟩; have HWZ := Lib.hid hwz; clear hwz)
            go_roundw
            case rel =>
              refine ⟨i + 1, by go_num, by omega, ?_, ?_, ?_⟩
              · rw [HWZ.out, hnx.out]
                refine Lib.hid (hW.out.drew.set HKL.out _ _ ?_)
                rw [UInt8.toNat_ofNat']
                have := HLOW.out
                omega
              · rw [HWZ.out]
                refine Lib.hid ?_
                rw [World.cell?_setCell_other _ _ _ _ (by intro h; injection h with h1; omega)]
                exact hX.out
              · rw [HWZ.out]
                exact Lib.hid (hB.out.drew.setCell (p := ⟨q, i / 8, none⟩) HQ'.out _)
            case measure => simp [intOf]; omega
          | false =>
            rw [hbit] at hc
            have hnx : Hid (dbits l.dead (i + 1) = dbits l.dead i) := by
              rw [show dbits l.dead (i + 1) = dstep l.dead (dbits l.dead i) i from rfl]
              unfold dstep
              rw [if_neg (by rw [List.getElem?_eq_getElem hik, hbit]; simp)]
              exact Lib.hid rfl
            clear hbit hy hlow hyv hq' hpw hpwv hkl hkm
            go_wp2
            go_roundw
            case rel => exact ⟨i + 1, by go_num, by omega, by rw [hnx.out]; exact hW, hX, hB⟩
            case measure => simp [intOf]; omega
        · have hiI : ¬ (i : Int) < nd := by omega
          obtain rfl : nd = i := by omega
          go_wp2
          refine HK.out _ _ ?_
          clear HK
          have L9 := Lib.hid (HL5.out.below hB.out hg5)
          have hg9 : g < wr.heap.size := Nat.lt_of_lt_of_le hg5 hB.out.size
          have HS9 := Lib.hid (HS5.out.below hB.out)
          have hbx9 : bx < wr.heap.size := World.block_lt_of_cell? wr _ hX.out
          have hW' := hW.out
          rw [HN.out] at hW'
          have hml : (deadL l.dead).length = m := by rw [deadL_length]; have h1 := HM.out; have h2 := HN.out; omega
          have HSB := Lib.hid (Wb.sl (l := deadL l.dead) (m := m) (c := m) hW' hml (Nat.le_refl _) (by have h1 := HM.out; have h2 := HND.out; unfold maxLen; omega))
          have HML := Lib.hid hml
          have hlen9 : (numsL ([l.arr.toNat, l.dk.toNat, l.gen.toNat, l.prev.toNat] ++ l.cfgN)).length ≤ 1000 := by
            rw [numsL_append, List.length_append]
            have h1 := numsL_length HN4.out
            have h2 := numsL_small (cfgN_small HV.out.1)
            rw [HC11.out] at h2
            simp only [List.length_cons, List.length_nil] at h1
            omega
          have HL9 := Lib.hid hlen9
          have HBW := Lib.hid (HB5.out.trans (hB.out.mono HB5.out.size))
          clear hW' hml hlen9 hW hB
          refine wp_seq_k (fun K hK => ?_)
          have HB : Hid (Below wr.heap.size wr wr.drew) := Lib.hid (Below.refl _ _).drew
          have hs : wr.heap.size ≤ wr.drew.heap.size := Nat.le_refl _
          have hKK := Lib.hid hK
          clear hK
          refine Rest.begin 13 (by kernel_rfl) (by kernel_rfl) ?_
          refine Rest.take 0 56 rfl (by kernel_rfl) (by kernel_rfl) (by kernel_rfl) (fun _ _ _ h => h) (by rfl) (by rfl) (by intro x hx; go_simp <;> with_reducible rfl) (by simp only [Act.put, List.setIfInBounds_toArray, List.set_cons_zero, List.set_cons_succ] <;> rfl) ?_
          refine Rest.take 1 57 rfl (by kernel_rfl) (by kernel_rfl) (by kernel_rfl) (fun _ _ _ h => h) (by rfl) (by rfl) (by intro x hx; have hc := below_cell (later HB hs hx) hbx9 hX.out; go_simp <;> with_reducible rfl) (by simp only [Act.put, List.setIfInBounds_toArray, List.set_cons_zero, List.set_cons_succ] <;> rfl) ?_
          refine Rest.take 3 59 rfl (by kernel_rfl) (by kernel_rfl) (by kernel_rfl) (fun _ _ _ h => h) (by rfl) (by rfl) (by intro x hx; go_simp <;> with_reducible rfl) (by simp only [Act.put, List.setIfInBounds_toArray, List.set_cons_zero, List.set_cons_succ] <;> rfl) ?_
          refine Rest.take 4 60 rfl (by kernel_rfl) (by kernel_rfl) (by kernel_rfl) (fun _ _ _ h => h) (by rfl) (by rfl) (by intro x hx; have hc := (L9.out.below (later HB hs hx) hg9).k16; go_simp <;> with_reducible rfl) (by simp only [Act.put, List.setIfInBounds_toArray, List.set_cons_zero, List.set_cons_succ] <;> rfl) ?_
          refine Rest.take 5 61 (v := .int .u64 l.blob) rfl (by kernel_rfl) (by kernel_rfl) (by kernel_rfl) (fun _ _ _ h => h) (by rfl) (by rfl) (by intro x hx; have h0 := HV.out.2.2.2.2.2.2.2.2.2.1; have h2 := HO.out.blob1; go_simp <;> (rw [IntKind.wrap_u64]; omega)) (by simp only [Act.put, List.setIfInBounds_toArray, List.set_cons_zero, List.set_cons_succ] <;> rfl) ?_
          refine Rest.take 6 62 rfl (by kernel_rfl) (by kernel_rfl) (by kernel_rfl) (fun _ _ _ h => h) (by rfl) (by rfl) (by intro x hx; go_simp <;> with_reducible rfl) (by simp only [Act.put, List.setIfInBounds_toArray, List.set_cons_zero, List.set_cons_succ] <;> rfl) ?_
          refine Rest.take 7 63 rfl (by kernel_rfl) (by kernel_rfl) (by kernel_rfl) (fun _ _ _ h => h) (by rfl) (by rfl) (by intro x hx; have hc := (L9.out.below (later HB hs hx) hg9).k17; go_simp <;> with_reducible rfl) (by simp only [Act.put, List.setIfInBounds_toArray, List.set_cons_zero, List.set_cons_succ] <;> rfl) ?_
          refine Rest.take 8 64 rfl (by kernel_rfl) (by kernel_rfl) (by kernel_rfl) (fun _ _ _ h => h) (by rfl) (by rfl) (by intro x hx; go_simp <;> with_reducible rfl) (by simp only [Act.put, List.setIfInBounds_toArray, List.set_cons_zero, List.set_cons_succ] <;> rfl) ?_
          refine Rest.take 9 65 rfl (by kernel_rfl) (by kernel_rfl) (by kernel_rfl) (fun _ _ _ h => h) (by rfl) (by rfl) (by intro x hx; have hc := (L9.out.below (later HB hs hx) hg9).k18; go_simp <;> with_reducible rfl) (by simp only [Act.put, List.setIfInBounds_toArray, List.set_cons_zero, List.set_cons_succ] <;> rfl) ?_
          refine Rest.step2 2 10 rfl rfl (by kernel_rfl) (by rfl) (by rfl) (fun K hK => ?_) (fun K hK => ?_)
          · go_simp
            go_at_call 34
            refine (appendBytes_any a1 n1 c1 _ _ m m (deadL l.dead) _ (HS9.out.below HB.out) (by have := HL9.out; omega) (HSB.out.below HB.out) (by have h1 := HML.out; have h2 := HM.out; have h3 := HND.out; omega)).mono ?_
            rintro e wn ⟨ar, nr, cr, rfl, ho, hb⟩
            refine hK.out _ _ hb ?_
            clear hK K
            have HB := Lib.hid (HB.out.trans (hb.mono hs))
            have hs := Nat.le_trans hs hb.size
            have HSA := Lib.hid (Sl.of_owns ho (bv_one _)).2
            clear ho hb
            refine Rest.step 10 rfl (by kernel_rfl) (by rfl) (fun K hK => ?_)
            go_simp
            refine hK.out _ _ ((Below.refl _ _).alloc (Nat.le_refl _) _) ?_
            clear hK K
            obtain ⟨wy, hwy⟩ : ∃ wy, wy = wn.alloc (.cells #[.int .u64 l.blob, .int .u64 l.sum, .int .u64 l.root] 22) := ⟨_, rfl⟩
            have hb : Below wn.heap.size wn wy := by rw [hwy]; exact (Below.refl _ _).alloc (Nat.le_refl _) _
            have HSX : Hid (Sl wy 1 (some ⟨wn.heap.size, 0, none⟩) 3 3 (uc [l.blob.toNat, l.sum.toNat, l.root.toNat])) := by
              have := Sl.lit wn #[.int .u64 l.blob, .int .u64 l.sum, .int .u64 l.root] 22 3 rfl (by decide) (by intro u hu; simp at hu; rcases hu with rfl | rfl | rfl <;> rfl)
              rw [hwy]
              have e : uc [l.blob.toNat, l.sum.toNat, l.root.toNat] = [.int .u64 l.blob, .int .u64 l.sum, .int .u64 l.root] := by
                have h0 := HO.out.sum0; have h1 := HV.out.2.2.2.2.2.2.2.2.2.1; have h2 := HO.out.root0
                simp only [uc, List.map_cons, List.map_nil, Int.toNat_of_nonneg h0, Int.toNat_of_nonneg h1, Int.toNat_of_nonneg h2]
              rw [e]
              exact Lib.hid this
            rw [← hwy]
            have HB := Lib.hid (HB.out.trans (hb.mono hs))
            have hs := Nat.le_trans hs hb.size
            have HSA := Lib.hid (HSA.out.below hb)
            clear hwy hb
            refine Rest.step 11 rfl (by kernel_rfl) (by rfl) (fun K hK => ?_)
            go_simp
            go_at_call 32
            refine (numbers_any ar nr cr _ _ 3 3 [l.blob.toNat, l.sum.toNat, l.root.toNat] _ HSA.out HSX.out HN3.out (by rw [List.length_append, List.length_append]; have h1 := HL9.out; have h2 := HML.out; have h3 := HM.out; have h4 := HND.out; have h5 := uv5 (x := (deadL l.dead).length) (by omega); simp only [List.length_cons, List.length_nil]; omega)).mono ?_
            rintro e wf ⟨af, nf, cf, rfl, hsf, hb⟩
            refine hK.out _ _ hb ?_
            clear hK K
            have HB := Lib.hid (HB.out.trans (hb.mono hs))
            have hs := Nat.le_trans hs hb.size
            have HSF := Lib.hid hsf
            clear hsf hb
            refine Rest.take 12 2 rfl (by kernel_rfl) (by kernel_rfl) (by kernel_rfl) (fun _ _ _ h => h) (by rfl) (by rfl) (by intro x hx; go_simp <;> with_reducible rfl) (by simp only [Act.put, List.setIfInBounds_toArray, List.set_cons_zero, List.set_cons_succ] <;> rfl) ?_
            refine Rest.done (by kernel_rfl) ?_
            refine hKK.out _ _ ?_
            refine wp_ret ?_
            refine bodyPost_ret (results_tmp rfl _ _ _) rfl ?_
            exact ⟨af, nf, cf, rfl, HSF.out, HBW.out.trans (HB.out.mono HBW.out.size)⟩
          · go_simp
            refine hK.out _ _ ((Below.refl _ _).alloc (Nat.le_refl _) _) ?_
            clear hK K
            obtain ⟨wy, hwy⟩ : ∃ wy, wy = (wr.alloc (.cells #[.int .u64 l.blob, .int .u64 l.sum, .int .u64 l.root] 22)).drew := ⟨_, rfl⟩
            have hb : Below wr.drew.heap.size wr.drew wy := by rw [hwy]; exact (Below.refl _ _).alloc (Nat.le_refl _) _
            have HSX : Hid (Sl wy 1 (some ⟨wr.drew.heap.size, 0, none⟩) 3 3 (uc [l.blob.toNat, l.sum.toNat, l.root.toNat])) := by
              have := Sl.lit wr.drew #[.int .u64 l.blob, .int .u64 l.sum, .int .u64 l.root] 22 3 rfl (by decide) (by intro u hu; simp at hu; rcases hu with rfl | rfl | rfl <;> rfl)
              rw [hwy]
              have e : uc [l.blob.toNat, l.sum.toNat, l.root.toNat] = [.int .u64 l.blob, .int .u64 l.sum, .int .u64 l.root] := by
                have h0 := HO.out.sum0; have h1 := HV.out.2.2.2.2.2.2.2.2.2.1; have h2 := HO.out.root0
                simp only [uc, List.map_cons, List.map_nil, Int.toNat_of_nonneg h0, Int.toNat_of_nonneg h1, Int.toNat_of_nonneg h2]
              rw [e]
              exact Lib.hid this
            rw [← hwy]
            have HB := Lib.hid (HB.out.trans (hb.mono hs))
            have hs := Nat.le_trans hs hb.size
            clear hwy hb
            refine Rest.step 2 rfl (by kernel_rfl) (by rfl) (fun K hK => ?_)
            go_simp
            go_at_call 34
            refine (appendBytes_any a1 n1 c1 _ _ m m (deadL l.dead) _ (HS9.out.below HB.out) (by have := HL9.out; omega) (HSB.out.below HB.out) (by have h1 := HML.out; have h2 := HM.out; have h3 := HND.out; omega)).mono ?_
            rintro e wn ⟨ar, nr, cr, rfl, ho, hb⟩
            refine hK.out _ _ hb ?_
            clear hK K
            have HB := Lib.hid (HB.out.trans (hb.mono hs))
            have hs := Nat.le_trans hs hb.size
            have HSA := Lib.hid (Sl.of_owns ho (bv_one _)).2
            have HSX := Lib.hid (HSX.out.below hb)
            clear ho hb
            refine Rest.step 11 rfl (by kernel_rfl) (by rfl) (fun K hK => ?_)
            go_simp
            go_at_call 32
            refine (numbers_any ar nr cr _ _ 3 3 [l.blob.toNat, l.sum.toNat, l.root.toNat] _ HSA.out HSX.out HN3.out (by rw [List.length_append, List.length_append]; have h1 := HL9.out; have h2 := HML.out; have h3 := HM.out; have h4 := HND.out; have h5 := uv5 (x := (deadL l.dead).length) (by omega); simp only [List.length_cons, List.length_nil]; omega)).mono ?_
            rintro e wf ⟨af, nf, cf, rfl, hsf, hb⟩
            refine hK.out _ _ hb ?_
            clear hK K
            have HB := Lib.hid (HB.out.trans (hb.mono hs))
            have hs := Nat.le_trans hs hb.size
            have HSF := Lib.hid hsf
            clear hsf hb
            refine Rest.take 12 2 rfl (by kernel_rfl) (by kernel_rfl) (by kernel_rfl) (fun _ _ _ h => h) (by rfl) (by rfl) (by intro x hx; go_simp <;> with_reducible rfl) (by simp only [Act.put, List.setIfInBounds_toArray, List.set_cons_zero, List.set_cons_succ] <;> rfl) ?_
            refine Rest.done (by kernel_rfl) ?_
            refine hKK.out _ _ ?_
            refine wp_ret ?_
            refine bodyPost_ret (results_tmp rfl _ _ _) rfl ?_
            exact ⟨af, nf, cf, rfl, HSF.out, HBW.out.trans (HB.out.mono HBW.out.size)⟩

end Go.Proofs.Ytjjknjkpkoeelaa
