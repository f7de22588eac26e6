/- Labels: the payload as the reference writes it. (Printed by payl3.py.) -/
import Derived.Test.YtjjknjkpkoeelaaPayl2
set_option linter.unusedVariables false
set_option linter.unusedSimpArgs false
namespace Go.Proofs.Ytjjknjkpkoeelaa
open Go Go.RowKit Go.Lib

theorem bsc {B : Nat} {w0 w : World} (h : Below B w0 w) {b : Nat} (hb : B ≤ b) : ∀ (o : Nat) (vs : List Value), Below B w0 (w.setCells b o vs)
  | _, [] => h
  | o, v :: r => bsc (h.setCell (p := ⟨b, o, none⟩) hb v) hb (o + 1) r
theorem cfgArr_get {l : Lb} (hc : l.cfg) {z : World} {p : Nat} (hr : z.rangeAt p 0 (#[.int .i64 l.cd, .int .i64 l.cw, .int .i64 l.ct, .int .i64 l.cs, .int .i64 l.gr, .int .i64 l.gb, .int .i64 l.gt, .int .i64 l.gs, .int .i64 l.go, .int .i64 l.ca, .int .i64 l.cl] : Array Value).toList) {i : Nat} (hi : i < l.cfgN.length) : z.cell? ⟨p, i, none⟩ = some (.int .i64 ((l.cfgN[i] : Nat) : Int)) := by
  unfold Lb.cfg cfgOk geoOk at hc
  have hi' : i < 11 := hi
  have e : i = 0 ∨ i = 1 ∨ i = 2 ∨ i = 3 ∨ i = 4 ∨ i = 5 ∨ i = 6 ∨ i = 7 ∨ i = 8 ∨ i = 9 ∨ i = 10 := by omega
  have hn : ∀ x : Int, 0 ≤ x → ((x.toNat : Nat) : Int) = x := fun x h => Int.toNat_of_nonneg h
  rcases e with rfl | rfl | rfl | rfl | rfl | rfl | rfl | rfl | rfl | rfl | rfl <;> (simp only [Lb.cfgN, List.getElem_cons_zero, List.getElem_cons_succ]; rw [hn _ (by omega)]; first | exact hr 0 _ rfl | exact hr 1 _ rfl | exact hr 2 _ rfl | exact hr 3 _ rfl | exact hr 4 _ rfl | exact hr 5 _ rfl | exact hr 6 _ rfl | exact hr 7 _ rfl | exact hr 8 _ rfl | exact hr 9 _ rfl | exact hr 10 _ rfl)
theorem there_of_block {z : World} {b : Nat} {cs : Array Value} {T : TypeId} (h : z.heap[b]? = some (.cells cs T (0, 0))) : z.there b 0 cs.size := by
  intro j hj
  rw [Nat.zero_add]
  refine ⟨?_, ?_⟩
  · rw [cell_of_row z b j cs T _ h, Array.getElem?_eq_getElem hj]; rfl
  · unfold World.frozen?
    rw [h]
    simp

set_option maxRecDepth 100000 in
set_option maxHeartbeats 3200000 in
theorem refPayload_any (l : Lb) (ad : Option Addr) (nd c : Nat) (w : World) (h : Sl w 1 ad nd c (bb l.dead)) (hok : l.ok) (hv : l.valid) :
    Calls Try.prog 26 #[l.agg ad nd c] w fun e w' => ∃ a' n' c', e = .returned (.slice a' n' c') ∧ Sl w' 1 a' n' c' (bv (payloadL l)) ∧ Below w.heap.size w w' := by
  have HO := Lib.hid hok
  have HV := Lib.hid hv
  have HH := Lib.hid h
  have HN := Lib.hid (show nd = l.dead.length by have := h.len; rw [bb_length, Nat.mul_one] at this; omega)
  have HCAP := Lib.hid h.cap
  have HND : Hid (nd ≤ 60) := Lib.hid (by have h1 := HN.out; have h2 := hv.2.2.2.2.2.2.1; have h3 : l.cd ≤ 60 := hv.1.2.1; omega)
  have HL1 := Lib.hid (uvarint_length64 (x := l.arr.toNat) (by have := hok.arr1; omega))
  have HL2 := Lib.hid (uvarint_length64 (x := l.dk.toNat) (by have h1 := hv.2.2.1; have h2 : l.cd ≤ 60 := hv.1.2.1; omega))
  have HL3 := Lib.hid (uvarint_length64 (x := l.gen.toNat) (by have := hok.gen1; omega))
  have HL4 := Lib.hid (uvarint_length64 (x := l.prev.toNat) (by have := hok.prev1; omega))
  have HLN : Hid ((numsL [l.arr.toNat, l.dk.toNat, l.gen.toNat, l.prev.toNat]).length ≤ 40) := Lib.hid (by
    have h1 := HL1.out; have h2 := HL2.out; have h3 := HL3.out; have h4 := HL4.out
    simp only [numsL, List.flatMap_cons, List.flatMap_nil, List.length_append, List.length_nil]
    omega)
  clear h hok hv
  unfold Lb.agg
  go_enter Try.func26, Try.ntmps26
  refine wp_seq_k (fun K hK => ?_)
  refine Lin.begin ?_
  refine Lin.takeW 1 rfl rfl (by go_simp; exact ⟨rfl, rfl⟩) (by simp only [Act.put, List.setIfInBounds_toArray, List.set_cons_zero, List.set_cons_succ] <;> rfl) ?_
  intro w1 hw1
  obtain ⟨g, hg⟩ : ∃ g, g = w.heap.size := ⟨_, rfl⟩
  have L1 : Hid (LbAt l ad nd c g w1) := by rw [hw1, hg]; exact Lib.hid (LbAt.new l ad nd c 29 w)
  have HB1 : Hid (Below w.heap.size w w1) := by rw [hw1]; exact Lib.hid ((Below.refl w.heap.size w).alloc (Nat.le_refl _) _)
  have hz1 : w.heap.size ≤ w1.heap.size := HB1.out.size
  have hg1 : g < w1.heap.size := by rw [hw1, hg]; simp
  rw [← hg]
  have HG := Lib.hid hg
  clear hw1 hg
  refine Lin.take 2 rfl rfl (by go_simp <;> with_reducible rfl) (by simp only [Act.put, List.setIfInBounds_toArray, List.set_cons_zero, List.set_cons_succ] <;> rfl) ?_
  refine Lin.done (hK _ _ ?_)
  clear hK K
  have HB : Hid (Below w1.heap.size w1 w1.drew) := Lib.hid (Below.refl _ _).drew
  have hs : w1.heap.size ≤ w1.drew.heap.size := Nat.le_refl _
  refine wp_seq_k (fun K hK => ?_)
  have hKK := Lib.hid hK
  clear hK
  refine Rest.begin 8 (by kernel_rfl) (by kernel_rfl) ?_
  refine Rest.take 0 10 rfl (by kernel_rfl) (by kernel_rfl) (by kernel_rfl) (fun _ _ _ h => h) (by rfl) (by rfl) (by intro x hx; go_simp <;> with_reducible rfl) (by simp only [Act.put, List.setIfInBounds_toArray, List.set_cons_zero, List.set_cons_succ] <;> rfl) ?_
  refine Rest.take 1 11 rfl (by kernel_rfl) (by kernel_rfl) (by kernel_rfl) (fun _ _ _ h => h) (by rfl) (by rfl) (by intro x hx; have hc := (L1.out.below (later HB hs hx) hg1).k0; go_simp <;> with_reducible rfl) (by simp only [Act.put, List.setIfInBounds_toArray, List.set_cons_zero, List.set_cons_succ] <;> rfl) ?_
  refine Rest.take 3 13 rfl (by kernel_rfl) (by kernel_rfl) (by kernel_rfl) (fun _ _ _ h => h) (by rfl) (by rfl) (by intro x hx; go_simp <;> with_reducible rfl) (by simp only [Act.put, List.setIfInBounds_toArray, List.set_cons_zero, List.set_cons_succ] <;> rfl) ?_
  refine Rest.take 4 14 rfl (by kernel_rfl) (by kernel_rfl) (by kernel_rfl) (fun _ _ _ h => h) (by rfl) (by rfl) (by intro x hx; have hc := (L1.out.below (later HB hs hx) hg1).k1; go_simp <;> with_reducible rfl) (by simp only [Act.put, List.setIfInBounds_toArray, List.set_cons_zero, List.set_cons_succ] <;> rfl) ?_
  refine Rest.take 5 15 (v := .int .u64 l.dk) rfl (by kernel_rfl) (by kernel_rfl) (by kernel_rfl) (fun _ _ _ h => h) (by rfl) (by rfl) (by intro x hx; have h0 := HV.out.2.1; have h2 := HO.out.dk1; go_simp <;> (rw [IntKind.wrap_u64]; omega)) (by simp only [Act.put, List.setIfInBounds_toArray, List.set_cons_zero, List.set_cons_succ] <;> rfl) ?_
  refine Rest.step 2 rfl (by kernel_rfl) (by rfl) (fun K hK => ?_)
  go_simp
  go_at_call 47
  refine (refAppendUint_any none 0 0 [] _ _ (by simpa [bv] using Sl.nilv _ 1) (by simp) HO.out.arr0 HO.out.arr1).mono ?_
  rintro e wn ⟨a1, n1, c1, rfl, ho, hb⟩
  refine hK.out _ _ hb ?_
  clear hK K
  have HB := Lib.hid (HB.out.trans (hb.mono hs))
  have hs := Nat.le_trans hs hb.size
  have HSA := Lib.hid (Sl.of_owns ho (bv_one _)).2
  clear ho hb
  refine Rest.step 6 rfl (by kernel_rfl) (by rfl) (fun K hK => ?_)
  go_simp
  go_at_call 47
  refine (refAppendUint_any a1 n1 c1 _ _ _ HSA.out (by have := HL1.out; simp only [List.nil_append]; omega) HV.out.2.1 (by have h1 := HV.out.2.2.1; have h2 : l.cd ≤ 60 := HV.out.1.2.1; omega)).mono ?_
  rintro e wn ⟨a2, n2, c2, rfl, ho, hb⟩
  refine hK.out _ _ hb ?_
  clear hK K
  have HB := Lib.hid (HB.out.trans (hb.mono hs))
  have hs := Nat.le_trans hs hb.size
  have HSA := Lib.hid (Sl.of_owns ho (bv_one _)).2
  clear ho hb
  refine Rest.take 7 3 rfl (by kernel_rfl) (by kernel_rfl) (by kernel_rfl) (fun _ _ _ h => h) (by rfl) (by rfl) (by intro x hx; go_simp <;> with_reducible rfl) (by simp only [Act.put, List.setIfInBounds_toArray, List.set_cons_zero, List.set_cons_succ] <;> rfl) ?_
  refine Rest.done (by kernel_rfl) ?_
  refine hKK.out _ _ ?_
  clear hKK
  have HB := Lib.hid (show Below w1.heap.size w1 wn.drew from HB.out.drew)
  have hs : w1.heap.size ≤ wn.drew.heap.size := hs
  have HSA := Lib.hid (show Sl wn.drew 1 a2 n2 c2 _ from HSA.out.drew)
  refine wp_seq_k (fun K hK => ?_)
  have hKK := Lib.hid hK
  clear hK
  refine Rest.begin 8 (by kernel_rfl) (by kernel_rfl) ?_
  refine Rest.take 0 17 rfl (by kernel_rfl) (by kernel_rfl) (by kernel_rfl) (fun _ _ _ h => h) (by rfl) (by rfl) (by intro x hx; go_simp <;> with_reducible rfl) (by simp only [Act.put, List.setIfInBounds_toArray, List.set_cons_zero, List.set_cons_succ] <;> rfl) ?_
  refine Rest.take 1 18 rfl (by kernel_rfl) (by kernel_rfl) (by kernel_rfl) (fun _ _ _ h => h) (by rfl) (by rfl) (by intro x hx; go_simp <;> with_reducible rfl) (by simp only [Act.put, List.setIfInBounds_toArray, List.set_cons_zero, List.set_cons_succ] <;> rfl) ?_
  refine Rest.take 2 19 rfl (by kernel_rfl) (by kernel_rfl) (by kernel_rfl) (fun _ _ _ h => h) (by rfl) (by rfl) (by intro x hx; have hc := (L1.out.below (later HB hs hx) hg1).k2; go_simp <;> with_reducible rfl) (by simp only [Act.put, List.setIfInBounds_toArray, List.set_cons_zero, List.set_cons_succ] <;> rfl) ?_
  refine Rest.take 4 21 rfl (by kernel_rfl) (by kernel_rfl) (by kernel_rfl) (fun _ _ _ h => h) (by rfl) (by rfl) (by intro x hx; go_simp <;> with_reducible rfl) (by simp only [Act.put, List.setIfInBounds_toArray, List.set_cons_zero, List.set_cons_succ] <;> rfl) ?_
  refine Rest.take 5 22 rfl (by kernel_rfl) (by kernel_rfl) (by kernel_rfl) (fun _ _ _ h => h) (by rfl) (by rfl) (by intro x hx; have hc := (L1.out.below (later HB hs hx) hg1).k3; go_simp <;> with_reducible rfl) (by simp only [Act.put, List.setIfInBounds_toArray, List.set_cons_zero, List.set_cons_succ] <;> rfl) ?_
  refine Rest.step 3 rfl (by kernel_rfl) (by rfl) (fun K hK => ?_)
  go_simp
  go_at_call 47
  refine (refAppendUint_any a2 n2 c2 _ _ _ HSA.out (by have h1 := HL1.out; have h2 := HL2.out; simp only [List.nil_append, List.length_append]; omega) HO.out.gen0 HO.out.gen1).mono ?_
  rintro e wn ⟨a3, n3, c3, rfl, ho, hb⟩
  refine hK.out _ _ hb ?_
  clear hK K
  have HB := Lib.hid (HB.out.trans (hb.mono hs))
  have hs := Nat.le_trans hs hb.size
  have HSA := Lib.hid (Sl.of_owns ho (bv_one _)).2
  clear ho hb
  refine Rest.step 6 rfl (by kernel_rfl) (by rfl) (fun K hK => ?_)
  go_simp
  go_at_call 47
  refine (refAppendUint_any a3 n3 c3 _ _ _ HSA.out (by have h1 := HL1.out; have h2 := HL2.out; have h3 := HL3.out; simp only [List.nil_append, List.length_append]; omega) HO.out.prev0 HO.out.prev1).mono ?_
  rintro e wn ⟨a4, n4, c4, rfl, ho, hb⟩
  refine hK.out _ _ hb ?_
  clear hK K
  have HB := Lib.hid (HB.out.trans (hb.mono hs))
  have hs := Nat.le_trans hs hb.size
  have HSA := Lib.hid (Sl.of_owns ho (bv_one _)).2
  clear ho hb
  refine Rest.take 7 3 rfl (by kernel_rfl) (by kernel_rfl) (by kernel_rfl) (fun _ _ _ h => h) (by rfl) (by rfl) (by intro x hx; go_simp <;> with_reducible rfl) (by simp only [Act.put, List.setIfInBounds_toArray, List.set_cons_zero, List.set_cons_succ] <;> rfl) ?_
  refine Rest.done (by kernel_rfl) ?_
  refine hKK.out _ _ ?_
  clear hKK
  rename World => wB
  have hsB : w1.heap.size ≤ wB.heap.size := hs
  have HSB := Lib.hid (show Sl wB 1 a4 n4 c4 (bv (numsL ([l.arr.toNat, l.dk.toNat, l.gen.toNat, l.prev.toNat] ++ l.cfgN.take 0))) by
    have := HSA.out
    simpa [numsL] using this)
  have hBB := HB.out
  have HB1B := Lib.hid hBB
  clear HSA hs HB
  refine wp_seq_k (fun K hK => ?_)
  have hKK := Lib.hid hK
  clear hK
  have hRest : ∀ (u10 u11 u12 u13 u14 u15 u16 u17 u18 u19 u20 u21 u22 u23 u24 u25 u26 u27 u28 : Value) (p4 p5 : Nat) (z : World), z.rangeAt p4 0 (#[.int .i64 l.cd, .int .i64 l.cw, .int .i64 l.ct, .int .i64 l.cs, .int .i64 l.gr, .int .i64 l.gb, .int .i64 l.gt, .int .i64 l.gs, .int .i64 l.go, .int .i64 l.ca, .int .i64 l.cl] : Array Value).toList → z.rangeAt p5 0 (#[.int .i64 l.gr, .int .i64 l.gb, .int .i64 l.gt, .int .i64 l.gs, .int .i64 l.go] : Array Value).toList → Below w1.heap.size w1 z → Below wB.heap.size wB z →
      K { tmps := #[.agg #[.int .u64 l.arr, .int .i64 l.dk, .int .u64 l.gen, .int .u64 l.prev, .int .i64 l.cd, .int .i64 l.cw, .int .i64 l.ct, .int .i64 l.cs, .int .i64 l.gr, .int .i64 l.gb, .int .i64 l.gt, .int .i64 l.gs, .int .i64 l.go, .int .i64 l.ca, .int .i64 l.cl, .slice ad nd c, .int .i64 l.blob, .int .u64 l.sum, .int .u64 l.root], .pointer (some ⟨g, 0, none⟩), .slice none 0 0, .slice a4 n4 c4, .pointer (some ⟨p4, 0, none⟩), .pointer (some ⟨p5, 0, none⟩), undef, undef, undef, undef, u10, u11, u12, u13, u14, u15, u16, u17, u18, u19, u20, u21, u22, u23, u24, u25, u26, u27, u28, undef, undef, undef, undef, undef, undef, undef, undef, undef, undef, undef, undef, undef, undef, undef, undef, undef, undef, undef, undef, undef, undef, undef, undef, undef, undef, undef, undef, undef, undef, undef, undef, undef, undef, undef, undef, undef, undef, undef, undef, undef, undef, undef, undef, undef, undef, undef, undef, undef, undef, undef, undef, undef, undef, undef, undef, undef, undef, undef, undef, undef, undef, undef, undef, undef, undef, undef, undef, undef, undef, undef, undef, undef, undef, undef], defers := [] } z := by
    intro u10 u11 u12 u13 u14 u15 u16 u17 u18 u19 u20 u21 u22 u23 u24 u25 u26 u27 u28 p4 p5 z hr4 hr5 hSw hBz
    refine hKK.out _ _ ?_
    clear hKK
    have c0 : z.cell? ⟨p4, 0, none⟩ = some (.int .i64 l.cd) := hr4 0 _ rfl
    have c1 : z.cell? ⟨p4, 1, none⟩ = some (.int .i64 l.cw) := hr4 1 _ rfl
    have c2 : z.cell? ⟨p4, 2, none⟩ = some (.int .i64 l.ct) := hr4 2 _ rfl
    have c3 : z.cell? ⟨p4, 3, none⟩ = some (.int .i64 l.cs) := hr4 3 _ rfl
    have c9 : z.cell? ⟨p4, 9, none⟩ = some (.int .i64 l.ca) := hr4 9 _ rfl
    have c10 : z.cell? ⟨p4, 10, none⟩ = some (.int .i64 l.cl) := hr4 10 _ rfl
    have d0 : z.cell? ⟨p5, 0, none⟩ = some (.int .i64 l.gr) := hr5 0 _ rfl
    have d1 : z.cell? ⟨p5, 1, none⟩ = some (.int .i64 l.gb) := hr5 1 _ rfl
    have d2 : z.cell? ⟨p5, 2, none⟩ = some (.int .i64 l.gt) := hr5 2 _ rfl
    have d3 : z.cell? ⟨p5, 3, none⟩ = some (.int .i64 l.gs) := hr5 3 _ rfl
    have d4 : z.cell? ⟨p5, 4, none⟩ = some (.int .i64 l.go) := hr5 4 _ rfl
    have HSW := Lib.hid hSw
    have HBZ := Lib.hid hBz
    have hszB : wB.heap.size ≤ z.heap.size := hBz.size
    clear hr4 hr5 hSw hBz
    refine wp_seq_k (fun K1 hK1 => ?_)
    refine Lin.begin ?_
    refine Lin.take 29 rfl rfl (by go_simp <;> with_reducible rfl) (by simp only [Act.put, List.setIfInBounds_toArray, List.set_cons_zero, List.set_cons_succ] <;> rfl) ?_
    refine Lin.take 30 rfl rfl (by go_simp <;> with_reducible rfl) (by simp only [Act.put, List.setIfInBounds_toArray, List.set_cons_zero, List.set_cons_succ] <;> rfl) ?_
    refine Lin.take 31 rfl rfl (by go_simp <;> with_reducible rfl) (by simp only [Act.put, List.setIfInBounds_toArray, List.set_cons_zero, List.set_cons_succ] <;> rfl) ?_
    refine Lin.take 32 rfl rfl (by go_simp <;> with_reducible rfl) (by simp only [Act.put, List.setIfInBounds_toArray, List.set_cons_zero, List.set_cons_succ] <;> rfl) ?_
    refine Lin.take 33 rfl rfl (by go_simp <;> with_reducible rfl) (by simp only [Act.put, List.setIfInBounds_toArray, List.set_cons_zero, List.set_cons_succ] <;> rfl) ?_
    refine Lin.take 34 rfl rfl (by go_simp <;> with_reducible rfl) (by simp only [Act.put, List.setIfInBounds_toArray, List.set_cons_zero, List.set_cons_succ] <;> rfl) ?_
    refine Lin.take 35 rfl rfl (by go_simp <;> with_reducible rfl) (by simp only [Act.put, List.setIfInBounds_toArray, List.set_cons_zero, List.set_cons_succ] <;> rfl) ?_
    refine Lin.take 36 rfl rfl (by go_simp <;> with_reducible rfl) (by simp only [Act.put, List.setIfInBounds_toArray, List.set_cons_zero, List.set_cons_succ] <;> rfl) ?_
    refine Lin.take 37 rfl rfl (by go_simp <;> with_reducible rfl) (by simp only [Act.put, List.setIfInBounds_toArray, List.set_cons_zero, List.set_cons_succ] <;> rfl) ?_
    refine Lin.take 38 rfl rfl (by go_simp <;> with_reducible rfl) (by simp only [Act.put, List.setIfInBounds_toArray, List.set_cons_zero, List.set_cons_succ] <;> rfl) ?_
    refine Lin.take 39 rfl rfl (by go_simp <;> with_reducible rfl) (by simp only [Act.put, List.setIfInBounds_toArray, List.set_cons_zero, List.set_cons_succ] <;> rfl) ?_
    refine Lin.take 40 rfl rfl (by go_simp <;> with_reducible rfl) (by simp only [Act.put, List.setIfInBounds_toArray, List.set_cons_zero, List.set_cons_succ] <;> rfl) ?_
    refine Lin.take 41 rfl rfl (by go_simp <;> with_reducible rfl) (by simp only [Act.put, List.setIfInBounds_toArray, List.set_cons_zero, List.set_cons_succ] <;> rfl) ?_
    refine Lin.take 42 rfl rfl (by go_simp <;> with_reducible rfl) (by simp only [Act.put, List.setIfInBounds_toArray, List.set_cons_zero, List.set_cons_succ] <;> rfl) ?_
    refine Lin.take 43 rfl rfl (by go_simp <;> with_reducible rfl) (by simp only [Act.put, List.setIfInBounds_toArray, List.set_cons_zero, List.set_cons_succ] <;> rfl) ?_
    refine Lin.take 44 rfl rfl (by go_simp <;> with_reducible rfl) (by simp only [Act.put, List.setIfInBounds_toArray, List.set_cons_zero, List.set_cons_succ] <;> rfl) ?_
    refine Lin.take 45 rfl rfl (by go_simp <;> with_reducible rfl) (by simp only [Act.put, List.setIfInBounds_toArray, List.set_cons_zero, List.set_cons_succ] <;> rfl) ?_
    refine Lin.take 46 rfl rfl (by go_simp <;> with_reducible rfl) (by simp only [Act.put, List.setIfInBounds_toArray, List.set_cons_zero, List.set_cons_succ] <;> rfl) ?_
    refine Lin.take 47 rfl rfl (by go_simp <;> with_reducible rfl) (by simp only [Act.put, List.setIfInBounds_toArray, List.set_cons_zero, List.set_cons_succ] <;> rfl) ?_
    refine Lin.take 48 rfl rfl (by go_simp <;> with_reducible rfl) (by simp only [Act.put, List.setIfInBounds_toArray, List.set_cons_zero, List.set_cons_succ] <;> rfl) ?_
    refine Lin.take 49 rfl rfl (by go_simp <;> with_reducible rfl) (by simp only [Act.put, List.setIfInBounds_toArray, List.set_cons_zero, List.set_cons_succ] <;> rfl) ?_
    refine Lin.take 50 rfl rfl (by go_simp <;> with_reducible rfl) (by simp only [Act.put, List.setIfInBounds_toArray, List.set_cons_zero, List.set_cons_succ] <;> rfl) ?_
    refine Lin.take 51 rfl rfl (by go_simp <;> with_reducible rfl) (by simp only [Act.put, List.setIfInBounds_toArray, List.set_cons_zero, List.set_cons_succ] <;> rfl) ?_
    refine Lin.takeW 6 rfl rfl (by go_simp; exact ⟨rfl, rfl⟩) (by simp only [Act.put, List.setIfInBounds_toArray, List.set_cons_zero, List.set_cons_succ] <;> rfl) ?_
    intro y1 hy1
    obtain ⟨p6, hp6⟩ : ∃ q, q = z.heap.size := ⟨_, rfl⟩
    rw [← hp6]
    have ht6 : y1.there p6 0 11 := there_of_block (cs := #[.int .i64 0, .int .i64 0, .int .i64 0, .int .i64 0, .int .i64 0, .int .i64 0, .int .i64 0, .int .i64 0, .int .i64 0, .int .i64 0, .int .i64 0]) (T := 72) (by rw [hy1, hp6]; exact heap_alloc_new _ _)
    have hBy : Below z.heap.size z y1 := by rw [hy1]; exact (Below.refl _ _).alloc (Nat.le_refl _) _
    clear hy1
    refine wpList_store_mid rfl 72 (.tmp 6) (.tmp 51) rfl p6 0 #[.int .i64 l.cd, .int .i64 l.cw, .int .i64 l.ct, .int .i64 l.cs, .int .i64 l.gr, .int .i64 l.gb, .int .i64 l.gt, .int .i64 l.gs, .int .i64 l.go, .int .i64 l.ca, .int .i64 l.cl] rfl rfl ht6 rfl (by simp [Value.oneCell']) ?_
    simp only [Act.put]
    obtain ⟨y2, hy2⟩ : ∃ y, y = y1.setCells p6 0 (#[.int .i64 l.cd, .int .i64 l.cw, .int .i64 l.ct, .int .i64 l.cs, .int .i64 l.gr, .int .i64 l.gb, .int .i64 l.gt, .int .i64 l.gs, .int .i64 l.go, .int .i64 l.ca, .int .i64 l.cl] : Array Value).toList := ⟨_, rfl⟩
    rw [← hy2]
    have hr6 : y2.rangeAt p6 0 (#[.int .i64 l.cd, .int .i64 l.cw, .int .i64 l.ct, .int .i64 l.cs, .int .i64 l.gr, .int .i64 l.gb, .int .i64 l.gt, .int .i64 l.gs, .int .i64 l.go, .int .i64 l.ca, .int .i64 l.cl] : Array Value).toList := by rw [hy2]; exact World.rangeAt_setCells_same _ _ _ _ ht6
    have hBy2 : Below z.heap.size z y2 := by rw [hy2]; exact bsc hBy (by omega) _ _
    have HP6 := Lib.hid hp6
    clear hy2 ht6 hBy hp6
    refine Lin.done (hK1 _ _ ?_)
    have HBy := Lib.hid hBy2
    have HC6 := Lib.hid hr6
    have HS6 := Lib.hid (HSB.out.below (HBZ.out.trans (hBy2.mono hszB)))
    have HW6 := Lib.hid (show Below w1.heap.size w1 y2 from HSW.out.trans (hBy2.mono HSW.out.size))
    have hsz6 : w1.heap.size ≤ y2.heap.size := HW6.out.size
    have HC11 := Lib.hid (show l.cfgN.length = 11 from rfl)
    clear c0 c1 c2 c3 c9 c10 d0 d1 d2 d3 d4 hBy2 hr6 hK1
    refine wp_seq_k (fun K2 hK2 => ?_)
    have HK2 := Lib.hid hK2
    clear hK2
    go_wp2
    go_loopw [3, 7] (fun bvv iv wr => ∃ (i : Nat) (a1 : Option Addr) (n1 c1 : Nat), iv = .int .i64 (i : Int) ∧ i ≤ 11 ∧ bvv = .slice a1 n1 c1 ∧ Hid (Sl wr 1 a1 n1 c1 (bv (numsL ([l.arr.toNat, l.dk.toNat, l.gen.toNat, l.prev.toNat] ++ l.cfgN.take i)))) ∧ Hid (Below y2.heap.size y2 wr)) (fun _ iv _ => 11 - (intOf iv).toNat)
    case atStart => exact ⟨0, a4, n4, c4, rfl, by omega, rfl, HS6, Lib.hid (Below.refl _ _)⟩
    case round =>
      obtain ⟨i, a1, n1, c1, rfl, hin, rfl, hs1, hB⟩ := hrel
      by_cases hi : i < 11
      · have hiI : (i : Int) < 11 := by omega
        have hi0 : (0 : Int) ≤ (i : Int) := by omega
        have hcn0 := cfgArr_get HV.out.1 HC6.out (i := i) (by rw [HC11.out]; exact hi)
        have hcn : wr.cell? ⟨p6, i, none⟩ = some (.int .i64 ((l.cfgN[i]'(by rw [HC11.out]; exact hi) : Nat) : Int)) := below_cell hB.out (World.block_lt_of_cell? y2 _ hcn0) hcn0
        clear hcn0
        obtain ⟨x, hx⟩ : ∃ x, x = l.cfgN[i]'(by rw [HC11.out]; exact hi) := ⟨_, rfl⟩
        rw [← hx] at hcn
        have hx32 : x < 4294967296 := by rw [hx]; exact cfgN_small HV.out.1 _ (List.getElem_mem _)
        have hxI : ((x : Nat) : Int) < 4294967296 := by omega
        have hnext : Hid (numsL ([l.arr.toNat, l.dk.toNat, l.gen.toNat, l.prev.toNat] ++ l.cfgN.take i) ++ uvarint x = numsL ([l.arr.toNat, l.dk.toNat, l.gen.toNat, l.prev.toNat] ++ l.cfgN.take (i + 1))) := by
          rw [← numsL_one, ← numsL_append, List.append_assoc, hx, ← List.take_succ_eq_append_getElem]
          exact Lib.hid rfl
        have hlen : (numsL ([l.arr.toNat, l.dk.toNat, l.gen.toNat, l.prev.toNat] ++ l.cfgN.take i)).length ≤ 1000 := by
          rw [numsL_append, List.length_append]
          have h1 := HLN.out
          have h2 := numsL_small (ns := l.cfgN.take i) fun y hy => cfgN_small HV.out.1 y (List.mem_of_mem_take hy)
          rw [List.length_take] at h2
          omega
        have HL := Lib.hid hlen
        clear hlen hx
        go_wp2_with (go_at_call 47; refine (refAppendUint_any a1 n1 c1 _ _ _ hs1.out (by have := HL.out; omega) (by omega) (by omega)).mono ?_; rintro e w5 ⟨a5, n5, c5, rfl, hs5, hb5⟩; rw [Int.toNat_natCast, hnext.out] at hs5; have HS5 := Lib.hid (Sl.of_owns hs5 (bv_one _)).2; have HB5 := Lib.hid (hB.out.trans (hb5.mono hB.out.size)); clear hs5 hb5)
        go_roundw
        case rel => exact ⟨i + 1, a5, n5, c5, by go_num, by omega, rfl, HS5, HB5⟩
        case measure => simp [intOf]; omega
      · have hiI : ¬ (i : Int) < 11 := by omega
        obtain rfl : i = 11 := by omega
        have HS5 := Lib.hid hs1.out
        rw [List.take_of_length_le (by rw [HC11.out]; exact Nat.le_refl _)] at HS5
        clear hs1
        go_wp2
        refine HK2.out _ _ ?_
        clear HK2
        rename World => w5
        have HW5 := Lib.hid (show Below w1.heap.size w1 w5 from HW6.out.trans (hB.out.mono hsz6))
        have L5 := L1.out.below HW5.out hg1
        have HB5 := Lib.hid (HB1.out.trans (HW5.out.mono HB1.out.size))
        have hg5 : g < w5.heap.size := Nat.lt_of_lt_of_le hg1 HW5.out.size
        clear hB HC6 HS6 HW6 HBy HBZ HSW
        obtain ⟨m, hm⟩ : ∃ m, m = (nd + 7) / 8 := ⟨_, rfl⟩
        have HM := Lib.hid hm
        clear hm
        refine wp_seq_k (fun K hK => ?_)
        refine Lin.begin ?_
        refine Lin.take 62 rfl rfl (by go_simp <;> with_reducible rfl) (by simp only [Act.put, List.setIfInBounds_toArray, List.set_cons_zero, List.set_cons_succ] <;> rfl) ?_
        refine Lin.take 63 rfl rfl (by have k15 := L5.k15; go_simp <;> with_reducible rfl) (by simp only [Act.put, List.setIfInBounds_toArray, List.set_cons_zero, List.set_cons_succ] <;> rfl) ?_
        refine Lin.take 64 rfl rfl (by go_simp <;> with_reducible rfl) (by simp only [Act.put, List.setIfInBounds_toArray, List.set_cons_zero, List.set_cons_succ] <;> rfl) ?_
        refine Lin.take 65 (v := .int .i64 ((nd : Int) + 7)) rfl rfl (by have h1 := HND.out; go_simp <;> exact IntWalk.i64_in _ (by omega)) (by simp only [Act.put, List.setIfInBounds_toArray, List.set_cons_zero, List.set_cons_succ] <;> rfl) ?_
        refine Lin.take 66 (v := .int .i64 (m : Int)) rfl rfl (by have h1 := HND.out; have h2 := HM.out; go_simp <;> (first | rw [IntWalk.i64_quo _ _ (by omega)] | rw [IntWalk.i64_in _ (by omega)]) <;> omega) (by simp only [Act.put, List.setIfInBounds_toArray, List.set_cons_zero, List.set_cons_succ] <;> rfl) ?_
        obtain ⟨i0, hi, hz0, hz1, hz2⟩ := info_parts info_u8
        refine wpList_make_full w5 rfl (.tmp 66) (.tmp 66) 35 rfl w5.heap.size 5 i0 (.int .u8 0) 1 Try.underlying35 hi hz0 hz1 .i64 .i64 _ _ m rfl rfl rfl rfl (by have h1 := HND.out; have h2 := HM.out; rw [hz2]; omega) (by have h1 := HND.out; have h2 := HM.out; unfold maxLen; omega) (Nat.le_refl _) ?_
        intro w6 hown6 hgrow6
        simp only [Act.put, List.setIfInBounds_toArray, List.set_cons_zero, List.set_cons_succ] 
        obtain ⟨q, hq⟩ : ∃ q, q = w5.heap.size := ⟨_, rfl⟩
        rw [← hq] at hown6 ⊢
        have HQ := Lib.hid hq
        clear hq
        refine Lin.take 8 rfl rfl (by go_simp <;> with_reducible rfl) (by simp only [Act.put, List.setIfInBounds_toArray, List.set_cons_zero, List.set_cons_succ] <;> rfl) ?_
        refine Lin.done (hK _ _ ?_)
        have hz : (madeCells (Value.int .u8 0).cells (m * 1)).toList = bv (dbits l.dead 0) := by
          rw [show (Value.int .u8 0).cells = #[.int .u8 0] from rfl, toList_madeCells_one, Nat.mul_one]
          have hmm := HM.out; have hnn := HN.out
          rw [show dbits l.dead 0 = List.replicate ((l.dead.length + 7) / 8) 0 from rfl, ← hnn, ← hmm]
          simp [bv]
        rw [hz] at hown6
        have hW6 := Lib.hid (Wb.of_owns hown6)
        have hb6 := Lib.hid (show Below w5.heap.size w5 w6 from (Below.refl _ w5).grown hgrow6 (Nat.le_refl _) (by simp))
        have HL5 := Lib.hid L5
        clear hown6 hgrow6 hz L5 hi hz0 hz1 hz2
        refine wp_seq_k (fun K3 hK3 => ?_)
        have HK3 := Lib.hid hK3
        have k15 := (HL5.out.below hb6.out hg5).k15
        clear hK3
        go_wp2
        clear k15
        go_loopw [9] (fun iv wr => ∃ (i : Nat), iv = .int .i64 (i : Int) ∧ i ≤ nd ∧ Hid (Wb wr q (dbits l.dead i)) ∧ Hid (Below w5.heap.size w5 wr)) (fun iv _ => nd - (intOf iv).toNat)
        case atStart => exact ⟨0, rfl, by omega, hW6, hb6⟩
        case round =>
          clear hW6 hb6
          obtain ⟨i, rfl, hin, hW, hB⟩ := hrel
          have k15 := (HL5.out.below hB.out hg5).k15
          by_cases hi : i < nd
          · have hiI : (i : Int) < nd := by omega
            have hi0 : (0 : Int) ≤ (i : Int) := by omega
            have hik : i < l.dead.length := by have := HN.out; omega
            have hcap := HCAP.out
            obtain ⟨b, off, ha, hcell⟩ := (HH.out.below (HB5.out.trans (hB.out.mono HB5.out.size))).at (k := i) (by rw [bb_length]; exact hik)
            have hc := hcell i (by rw [bb_length]; exact hik)
            simp only [bb, List.getElem_map] at hc
            clear hcell
            have hi6 : i ≤ 1000000 := by have := HND.out; omega
            have hkl : i / 8 < (dbits l.dead i).length := by rw [dbits_length]; omega
            have hkm : i / 8 < m := by have h1 := HM.out; have h2 := HN.out; omega
            have hy := hW.out.cell (i / 8) hkl
            have hf := hW.out.free (i / 8) hkl
            have hlow := dbits_low' l.dead hik
            rw [List.getD_eq_getElem?_getD, List.getElem?_eq_getElem hkl, Option.getD_some] at hlow
            obtain ⟨y, hyv⟩ : ∃ y, y = (dbits l.dead i)[i / 8].toNat := ⟨_, rfl⟩
            rw [← hyv] at hy hlow
            have hpw := pow_8 (k := i % 8) (by omega)
            obtain ⟨pw, hpwv⟩ : ∃ pw, pw = 2 ^ (i % 8) := ⟨_, rfl⟩
            rw [← hpwv] at hlow hpw
            subst ha
            cases hbit : l.dead[i] with
            | true =>
              rw [hbit] at hc
              have hnx : Hid (dbits l.dead (i + 1) = (dbits l.dead i).set (i / 8) (UInt8.ofNat (y + pw))) := by
                rw [show dbits l.dead (i + 1) = dstep l.dead (dbits l.dead i) i from rfl]
                unfold dstep
                rw [if_pos (by rw [List.getElem?_eq_getElem hik, hbit]), List.getD_eq_getElem?_getD, List.getElem?_eq_getElem hkl, Option.getD_some, ← hyv, ← hpwv]
                exact Lib.hid rfl
              obtain ⟨k, hk⟩ : ∃ k, k = i / 8 := ⟨_, rfl⟩
              obtain ⟨r, hr⟩ : ∃ r, r = i % 8 := ⟨_, rfl⟩
              rw [← hk] at hy hf hkl hkm hnx
              rw [← hr] at hpwv
              have hcast : (2 : Int) ^ r = (pw : Int) := by rw [hpwv, Int.natCast_pow]; rfl
              have HPOW : Hid (IntKind.u8.wrap (2 ^ r) = (pw : Int)) := Lib.hid (by rw [hcast, IntKind.wrap_u8]; omega)
              have HADD : Hid (IntKind.u8.wrap ((y : Int) + (pw : Int)) = (y : Int) + (pw : Int)) := Lib.hid (by rw [IntKind.wrap_u8]; omega)
              have HLOW := Lib.hid (show y + pw < 256 by omega)
              have HKL := Lib.hid hkl
              have HK' := Lib.hid hk
              have HR := Lib.hid hr
              have HY := Lib.hid hy
              have HF := Lib.hid hf
              have hi8 : (0 : Int) ≤ (k : Int) := by omega
              have him : (k : Int) < (m : Int) := by omega
              clear hbit hlow hyv hpw hpwv hkl hkm hcast hk hr hy hf
              go_wp2
              have hSw : (fun _ : World => True) wr.drew := trivial
              refine RestS.begin (fun _ => True) 11 (by kernel_rfl) (by kernel_rfl) ?_
              refine RestS.take 0 80 rfl (by kernel_rfl) (by kernel_rfl) (by kernel_rfl) (fun _ _ _ h => h) (by rfl) (by rfl) (by intro x hx; go_simp <;> with_reducible rfl) (by simp only [Act.put, List.setIfInBounds_toArray, List.set_cons_zero, List.set_cons_succ] <;> rfl) hSw ?_
              refine RestS.take 1 81 rfl (by kernel_rfl) (by kernel_rfl) (by kernel_rfl) (fun _ _ _ h => h) (by rfl) (by rfl) (by intro x hx; go_simp <;> with_reducible rfl) (by simp only [Act.put, List.setIfInBounds_toArray, List.set_cons_zero, List.set_cons_succ] <;> rfl) hSw ?_
              refine RestS.take 2 82 (v := .int .i64 (k : Int)) rfl (by kernel_rfl) (by kernel_rfl) (by kernel_rfl) (fun _ _ _ h => h) (by rfl) (by rfl) (by intro x hx; have h0 := hi0; go_simp <;> (rw [IntWalk.i64_in _ (by omega)]; have := HK'.out; omega)) (by simp only [Act.put, List.setIfInBounds_toArray, List.set_cons_zero, List.set_cons_succ] <;> rfl) hSw ?_
              refine RestS.take 3 83 (v := .pointer (some ⟨q, k, none⟩)) rfl (by kernel_rfl) (by kernel_rfl) (by kernel_rfl) (fun _ _ _ h => h) (by rfl) (by rfl) (by intro x hx; have h1 := him; have h0 := hi8; go_simp <;> with_reducible rfl) (by simp only [Act.put, List.setIfInBounds_toArray, List.set_cons_zero, List.set_cons_succ] <;> rfl) hSw ?_
              refine RestS.take 5 85 rfl (by kernel_rfl) (by kernel_rfl) (by kernel_rfl) (fun _ _ _ h => h) (by rfl) (by rfl) (by intro x hx; go_simp <;> with_reducible rfl) (by simp only [Act.put, List.setIfInBounds_toArray, List.set_cons_zero, List.set_cons_succ] <;> rfl) hSw ?_
              refine RestS.take 6 86 (v := .int .i64 (r : Int)) rfl (by kernel_rfl) (by kernel_rfl) (by kernel_rfl) (fun _ _ _ h => h) (by rfl) (by rfl) (by intro x hx; go_simp <;> (rw [Int.tmod_eq_emod_of_nonneg (by omega)]; have := HR.out; omega)) (by simp only [Act.put, List.setIfInBounds_toArray, List.set_cons_zero, List.set_cons_succ] <;> rfl) hSw ?_
              refine RestS.take 7 87 (v := .int .u8 (pw : Int)) rfl (by kernel_rfl) (by kernel_rfl) (by kernel_rfl) (fun _ _ _ h => h) (by rfl) (by rfl) (by intro x hx; go_simp <;> (rw [Nat.min_eq_left (by have := HR.out; omega)]; exact HPOW.out)) (by simp only [Act.put, List.setIfInBounds_toArray, List.set_cons_zero, List.set_cons_succ] <;> rfl) hSw ?_
              refine RestS.step 4 rfl (by kernel_rfl) (by rfl) (fun K hK => ?_)
              have hyc : wr.drew.cell? ⟨q, k, none⟩ = some (.int .u8 (y : Int)) := HY.out
              go_simp
              refine hK.out _ _ trivial ?_
              clear hK K
              refine RestS.take 8 88 (v := .int .u8 ((y + pw : Nat) : Int)) rfl (by kernel_rfl) (by kernel_rfl) (by kernel_rfl) (fun _ _ _ h => h) (by rfl) (by rfl) (by intro x hx; have hh := HADD.out; go_simp) (by simp only [Act.put, List.setIfInBounds_toArray, List.set_cons_zero, List.set_cons_succ] <;> rfl) hSw ?_
              refine RestS.take 9 89 (v := .pointer (some ⟨q, k, none⟩)) rfl (by kernel_rfl) (by kernel_rfl) (by kernel_rfl) (fun _ _ _ h => h) (by rfl) (by rfl) (by intro x hx; have h1 := him; have h0 := hi8; go_simp <;> with_reducible rfl) (by simp only [Act.put, List.setIfInBounds_toArray, List.set_cons_zero, List.set_cons_succ] <;> rfl) hSw ?_
              refine RestS.step 10 rfl (by kernel_rfl) (by rfl) (fun K hK => ?_)
              have hyc : wr.drew.cell? ⟨q, k, none⟩ = some (.int .u8 (y : Int)) := HY.out
              have hfd : wr.drew.frozen? ⟨q, k, none⟩ = false := HF.out
              go_simp
              refine hK.out _ _ trivial ?_
              clear hK K
              refine wpAnyH_done (by kernel_rfl) ?_ _
              go_wp2
              go_roundw
              case rel =>
                refine ⟨i + 1, by go_num, by omega, ?_, ?_⟩
                · rw [hnx.out]
                  refine Lib.hid (hW.out.drew.set HKL.out _ _ ?_)
                  rw [UInt8.toNat_ofNat']
                  have := HLOW.out
                  omega
                · exact Lib.hid (hB.out.drew.setCell (p := ⟨q, k, none⟩) (show w5.heap.size ≤ q by have := HQ.out; omega) _)
              case measure => simp [intOf]; omega
            | false =>
              rw [hbit] at hc
              have hnx : Hid (dbits l.dead (i + 1) = dbits l.dead i) := by
                rw [show dbits l.dead (i + 1) = dstep l.dead (dbits l.dead i) i from rfl]
                unfold dstep
                rw [if_neg (by rw [List.getElem?_eq_getElem hik, hbit]; simp)]
                exact Lib.hid rfl
              clear hbit hy hlow hyv hpw hpwv hkl hkm hf
              go_wp2
              go_roundw
              case rel => exact ⟨i + 1, by go_num, by omega, by rw [hnx.out]; exact hW, hB⟩
              case measure => simp [intOf]; omega
          · have hiI : ¬ (i : Int) < nd := by omega
            obtain rfl : nd = i := by omega
            go_wp2
            refine HK3.out _ _ ?_
            clear HK3 k15
            have L9 := Lib.hid (HL5.out.below hB.out hg5)
            have hg9 : g < wr.heap.size := Nat.lt_of_lt_of_le hg5 hB.out.size
            have HS9 := Lib.hid (HS5.out.below hB.out)
            have hW' := hW.out
            rw [HN.out] at hW'
            have hml : (deadL l.dead).length = m := by rw [deadL_length]; have h1 := HM.out; have h2 := HN.out; omega
            have HSB2 := Lib.hid (Wb.sl (l := deadL l.dead) (m := m) (c := m) hW' hml (Nat.le_refl _) (by have h1 := HM.out; have h2 := HND.out; unfold maxLen; omega))
            have HML := Lib.hid hml
            have hlen9 : (numsL ([l.arr.toNat, l.dk.toNat, l.gen.toNat, l.prev.toNat] ++ l.cfgN)).length ≤ 1000 := by
              rw [numsL_append, List.length_append]
              have h1 := HLN.out
              have h2 := numsL_small (cfgN_small HV.out.1)
              rw [HC11.out] at h2
              omega
            have HL9 := Lib.hid hlen9
            have HBW := Lib.hid (HB5.out.trans (hB.out.mono HB5.out.size))
            have HL6 := Lib.hid (uv5 (x := (deadL l.dead).length) (by have h2 := HM.out; have h3 := HND.out; omega))
            have HL7 := Lib.hid (uv5 (x := l.blob.toNat) (by have h1 := HV.out.2.2.2.2.2.2.2.2.2.2; omega))
            have HL8 := Lib.hid (uvarint_length64 (x := l.sum.toNat) (by have := HO.out.sum1; omega))
            clear hW' hml hlen9 hW hB
            refine wp_seq_k (fun K hK => ?_)
            have HB : Hid (Below wr.heap.size wr wr.drew) := Lib.hid (Below.refl _ _).drew
            have hs : wr.heap.size ≤ wr.drew.heap.size := Nat.le_refl _
            have hKK := Lib.hid hK
            clear hK
            refine Rest.begin 8 (by kernel_rfl) (by kernel_rfl) ?_
            refine Rest.take 0 90 rfl (by kernel_rfl) (by kernel_rfl) (by kernel_rfl) (fun _ _ _ h => h) (by rfl) (by rfl) (by intro x hx; go_simp <;> with_reducible rfl) (by simp only [Act.put, List.setIfInBounds_toArray, List.set_cons_zero, List.set_cons_succ] <;> rfl) ?_
            refine Rest.take 1 91 rfl (by kernel_rfl) (by kernel_rfl) (by kernel_rfl) (fun _ _ _ h => h) (by rfl) (by rfl) (by intro x hx; go_simp <;> with_reducible rfl) (by simp only [Act.put, List.setIfInBounds_toArray, List.set_cons_zero, List.set_cons_succ] <;> rfl) ?_
            refine Rest.take 3 93 rfl (by kernel_rfl) (by kernel_rfl) (by kernel_rfl) (fun _ _ _ h => h) (by rfl) (by rfl) (by intro x hx; go_simp <;> with_reducible rfl) (by simp only [Act.put, List.setIfInBounds_toArray, List.set_cons_zero, List.set_cons_succ] <;> rfl) ?_
            refine Rest.take 4 94 rfl (by kernel_rfl) (by kernel_rfl) (by kernel_rfl) (fun _ _ _ h => h) (by rfl) (by rfl) (by intro x hx; have hc := (L9.out.below (later HB hs hx) hg9).k16; go_simp <;> with_reducible rfl) (by simp only [Act.put, List.setIfInBounds_toArray, List.set_cons_zero, List.set_cons_succ] <;> rfl) ?_
            refine Rest.take 5 95 (v := .int .u64 l.blob) rfl (by kernel_rfl) (by kernel_rfl) (by kernel_rfl) (fun _ _ _ h => h) (by rfl) (by rfl) (by intro x hx; have h0 := HV.out.2.2.2.2.2.2.2.2.2.1; have h2 := HO.out.blob1; go_simp <;> (rw [IntKind.wrap_u64]; omega)) (by simp only [Act.put, List.setIfInBounds_toArray, List.set_cons_zero, List.set_cons_succ] <;> rfl) ?_
            refine Rest.step 2 rfl (by kernel_rfl) (by rfl) (fun K hK => ?_)
            go_simp
            go_at_call 49
            refine (refAppendBytes_any a1 n1 c1 _ _ m m (deadL l.dead) _ (HS9.out.below HB.out) (by have := HL9.out; omega) (HSB2.out.below HB.out) (by have h1 := HML.out; have h2 := HM.out; have h3 := HND.out; omega)).mono ?_
            rintro e wn ⟨a7, n7, c7, rfl, ho, hb⟩
            refine hK.out _ _ hb ?_
            clear hK K
            have HB := Lib.hid (HB.out.trans (hb.mono hs))
            have hs := Nat.le_trans hs hb.size
            have HSA := Lib.hid (Sl.of_owns ho (bv_one _)).2
            clear ho hb
            refine Rest.step 6 rfl (by kernel_rfl) (by rfl) (fun K hK => ?_)
            go_simp
            go_at_call 47
            refine (refAppendUint_any a7 n7 c7 _ _ _ HSA.out (by have h1 := HL9.out; have h2 := HL6.out; have h3 := HML.out; have h4 := HM.out; have h5 := HND.out; simp only [List.length_append]; omega) HV.out.2.2.2.2.2.2.2.2.2.1 (by have h1 := HV.out.2.2.2.2.2.2.2.2.2.2; omega)).mono ?_
            rintro e wn ⟨a8, n8, c8, rfl, ho, hb⟩
            refine hK.out _ _ hb ?_
            clear hK K
            have HB := Lib.hid (HB.out.trans (hb.mono hs))
            have hs := Nat.le_trans hs hb.size
            have HSA := Lib.hid (Sl.of_owns ho (bv_one _)).2
            clear ho hb
            refine Rest.take 7 3 rfl (by kernel_rfl) (by kernel_rfl) (by kernel_rfl) (fun _ _ _ h => h) (by rfl) (by rfl) (by intro x hx; go_simp <;> with_reducible rfl) (by simp only [Act.put, List.setIfInBounds_toArray, List.set_cons_zero, List.set_cons_succ] <;> rfl) ?_
            refine Rest.done (by kernel_rfl) ?_
            refine hKK.out _ _ ?_
            clear hKK
            rename World => wC
            have HBC := Lib.hid (HBW.out.trans (HB.out.mono HBW.out.size))
            have LC := Lib.hid (L9.out.below HB.out hg9)
            have hgC : g < wC.heap.size := Nat.lt_of_lt_of_le hg9 (Nat.le_trans (Nat.le_refl _) hs)
            have HSA := Lib.hid (show Sl wC.drew 1 a8 n8 c8 _ from HSA.out.drew)
            refine wp_seq_k (fun K hK => ?_)
            have HB : Hid (Below wC.heap.size wC wC.drew) := Lib.hid (Below.refl _ _).drew
            have hs : wC.heap.size ≤ wC.drew.heap.size := Nat.le_refl _
            have hKK := Lib.hid hK
            clear hK
            refine Rest.begin 8 (by kernel_rfl) (by kernel_rfl) ?_
            refine Rest.take 0 97 rfl (by kernel_rfl) (by kernel_rfl) (by kernel_rfl) (fun _ _ _ h => h) (by rfl) (by rfl) (by intro x hx; go_simp <;> with_reducible rfl) (by simp only [Act.put, List.setIfInBounds_toArray, List.set_cons_zero, List.set_cons_succ] <;> rfl) ?_
            refine Rest.take 1 98 rfl (by kernel_rfl) (by kernel_rfl) (by kernel_rfl) (fun _ _ _ h => h) (by rfl) (by rfl) (by intro x hx; go_simp <;> with_reducible rfl) (by simp only [Act.put, List.setIfInBounds_toArray, List.set_cons_zero, List.set_cons_succ] <;> rfl) ?_
            refine Rest.take 2 99 rfl (by kernel_rfl) (by kernel_rfl) (by kernel_rfl) (fun _ _ _ h => h) (by rfl) (by rfl) (by intro x hx; have hc := (LC.out.below (later HB hs hx) hgC).k17; go_simp <;> with_reducible rfl) (by simp only [Act.put, List.setIfInBounds_toArray, List.set_cons_zero, List.set_cons_succ] <;> rfl) ?_
            refine Rest.take 4 101 rfl (by kernel_rfl) (by kernel_rfl) (by kernel_rfl) (fun _ _ _ h => h) (by rfl) (by rfl) (by intro x hx; go_simp <;> with_reducible rfl) (by simp only [Act.put, List.setIfInBounds_toArray, List.set_cons_zero, List.set_cons_succ] <;> rfl) ?_
            refine Rest.take 5 102 rfl (by kernel_rfl) (by kernel_rfl) (by kernel_rfl) (fun _ _ _ h => h) (by rfl) (by rfl) (by intro x hx; have hc := (LC.out.below (later HB hs hx) hgC).k18; go_simp <;> with_reducible rfl) (by simp only [Act.put, List.setIfInBounds_toArray, List.set_cons_zero, List.set_cons_succ] <;> rfl) ?_
            refine Rest.step 3 rfl (by kernel_rfl) (by rfl) (fun K hK => ?_)
            go_simp
            go_at_call 47
            refine (refAppendUint_any a8 n8 c8 _ _ _ HSA.out (by have h1 := HL9.out; have h2 := HL6.out; have h3 := HML.out; have h4 := HM.out; have h5 := HND.out; have h6 := HL7.out; have h7 := HL8.out; simp only [List.length_append]; omega) HO.out.sum0 HO.out.sum1).mono ?_
            rintro e wn ⟨a9, n9, c9, rfl, ho, hb⟩
            refine hK.out _ _ hb ?_
            clear hK K
            have HB := Lib.hid (HB.out.trans (hb.mono hs))
            have hs := Nat.le_trans hs hb.size
            have HSA := Lib.hid (Sl.of_owns ho (bv_one _)).2
            clear ho hb
            refine Rest.step 6 rfl (by kernel_rfl) (by rfl) (fun K hK => ?_)
            go_simp
            go_at_call 47
            refine (refAppendUint_any a9 n9 c9 _ _ _ HSA.out (by have h1 := HL9.out; have h2 := HL6.out; have h3 := HML.out; have h4 := HM.out; have h5 := HND.out; have h6 := HL7.out; have h7 := HL8.out; simp only [List.length_append]; omega) HO.out.root0 HO.out.root1).mono ?_
            rintro e wn ⟨a10, n10, c10, rfl, ho, hb⟩
            refine hK.out _ _ hb ?_
            clear hK K
            have HB := Lib.hid (HB.out.trans (hb.mono hs))
            have hs := Nat.le_trans hs hb.size
            have HSA := Lib.hid (Sl.of_owns ho (bv_one _)).2
            clear ho hb
            refine Rest.take 7 2 rfl (by kernel_rfl) (by kernel_rfl) (by kernel_rfl) (fun _ _ _ h => h) (by rfl) (by rfl) (by intro x hx; go_simp <;> with_reducible rfl) (by simp only [Act.put, List.setIfInBounds_toArray, List.set_cons_zero, List.set_cons_succ] <;> rfl) ?_
            refine Rest.done (by kernel_rfl) ?_
            refine hKK.out _ _ ?_
            clear hKK
            refine wp_ret ?_
            refine bodyPost_ret (results_tmp rfl _ _ _) rfl ?_
            refine ⟨a10, n10, c10, rfl, ?_, HBC.out.trans (HB.out.mono HBC.out.size)⟩
            have := HSA.out
            unfold payloadL
            simpa [numsL, List.append_assoc] using this
  have hSw : Below w1.heap.size w1 wB.drew := hBB.drew
  have hsS : w1.heap.size ≤ wB.drew.heap.size := hsB
  have HBB0 : Below wB.heap.size wB wB.drew := (Below.refl _ _).drew
  refine RestS.begin (fun x => Below w1.heap.size w1 x) 9 (by kernel_rfl) (by kernel_rfl) ?_
  refine RestS.take 0 24 rfl (by kernel_rfl) (by kernel_rfl) (by kernel_rfl) (fun _ _ _ h => h) (by rfl) (by rfl) (by intro x hx; go_simp <;> with_reducible rfl) (by simp only [Act.put, List.setIfInBounds_toArray, List.set_cons_zero, List.set_cons_succ] <;> rfl) hSw ?_
  refine RestS.take 1 25 rfl (by kernel_rfl) (by kernel_rfl) (by kernel_rfl) (fun _ _ _ h => h) (by rfl) (by rfl) (by intro x hx; obtain ⟨k0, k1, k2, k3, k4, k5, k6, k7, k8, k9, k10, k11, k12, k13, k14, k15, k16, k17, k18⟩ := L1.out.below hx hg1; go_simp <;> with_reducible rfl) (by simp only [Act.put, List.setIfInBounds_toArray, List.set_cons_zero, List.set_cons_succ] <;> rfl) hSw ?_
  refine RestS.take 2 26 rfl (by kernel_rfl) (by kernel_rfl) (by kernel_rfl) (fun _ _ _ h => h) (by rfl) (by rfl) (by intro x hx; go_simp <;> with_reducible rfl) (by simp only [Act.put, List.setIfInBounds_toArray, List.set_cons_zero, List.set_cons_succ] <;> rfl) hSw ?_
  refine RestS.take 3 27 rfl (by kernel_rfl) (by kernel_rfl) (by kernel_rfl) (fun _ _ _ h => h) (by rfl) (by rfl) (by intro x hx; go_simp <;> with_reducible rfl) (by simp only [Act.put, List.setIfInBounds_toArray, List.set_cons_zero, List.set_cons_succ] <;> rfl) hSw ?_
  refine RestS.take 4 28 rfl (by kernel_rfl) (by kernel_rfl) (by kernel_rfl) (fun _ _ _ h => h) (by rfl) (by rfl) (by intro x hx; obtain ⟨k0, k1, k2, k3, k4, k5, k6, k7, k8, k9, k10, k11, k12, k13, k14, k15, k16, k17, k18⟩ := L1.out.below hx hg1; go_simp <;> with_reducible rfl) (by simp only [Act.put, List.setIfInBounds_toArray, List.set_cons_zero, List.set_cons_succ] <;> rfl) hSw ?_
  refine RestS.step2 5 6 rfl rfl (by kernel_rfl) (by rfl) (by rfl) (fun K hK => ?_) (fun K hK => ?_)
  · go_simp
    refine hK.out _ _ (hSw.alloc hsS _) ?_
    clear hK K
    obtain ⟨z1, hz1⟩ : ∃ z, z = (wB.alloc (.cells #[.int .i64 0, .int .i64 0, .int .i64 0, .int .i64 0, .int .i64 0, .int .i64 0, .int .i64 0, .int .i64 0, .int .i64 0, .int .i64 0, .int .i64 0] 26)).drew := ⟨_, rfl⟩
    obtain ⟨p4, hp4⟩ : ∃ q, q = wB.heap.size := ⟨_, rfl⟩
    rw [← hz1, ← hp4]
    have hhpp4 : z1.heap[p4]? = some (.cells #[.int .i64 0, .int .i64 0, .int .i64 0, .int .i64 0, .int .i64 0, .int .i64 0, .int .i64 0, .int .i64 0, .int .i64 0, .int .i64 0, .int .i64 0] 26 (0, 0)) := by rw [hz1, hp4]; exact heap_alloc_new _ _
    have hSw : Below w1.heap.size w1 z1 := by rw [hz1]; exact hSw.alloc hsS _
    have HBB : Below wB.heap.size wB z1 := by rw [hz1]; exact HBB0.alloc (Nat.le_refl _) _
    have hsS : w1.heap.size ≤ z1.heap.size := hSw.size
    have hwB : wB.heap.size ≤ z1.heap.size := HBB.size
    have hlt1 : p4 < z1.heap.size := (Array.getElem?_eq_some_iff.1 hhpp4).1
    have hB4 : wB.heap.size ≤ p4 := by omega
    clear hz1 hp4
    refine RestS.step 6 rfl (by kernel_rfl) (by rfl) (fun K hK => ?_)
    go_simp
    refine hK.out _ _ (hSw.alloc hsS _) ?_
    clear hK K
    obtain ⟨z2, hz2⟩ : ∃ z, z = z1.alloc (.cells #[.int .i64 0, .int .i64 0, .int .i64 0, .int .i64 0, .int .i64 0] 24) := ⟨_, rfl⟩
    obtain ⟨p5, hp5⟩ : ∃ q, q = z1.heap.size := ⟨_, rfl⟩
    rw [← hz2, ← hp5]
    have hhpp5 : z2.heap[p5]? = some (.cells #[.int .i64 0, .int .i64 0, .int .i64 0, .int .i64 0, .int .i64 0] 24 (0, 0)) := by rw [hz2, hp5]; exact heap_alloc_new _ _
    have hSw : Below w1.heap.size w1 z2 := by rw [hz2]; exact hSw.alloc hsS _
    have HBB : Below wB.heap.size wB z2 := by rw [hz2]; exact HBB.alloc HBB.size _
    have hsS : w1.heap.size ≤ z2.heap.size := hSw.size
    have hhpp4 : z2.heap[p4]? = some (.cells #[.int .i64 0, .int .i64 0, .int .i64 0, .int .i64 0, .int .i64 0, .int .i64 0, .int .i64 0, .int .i64 0, .int .i64 0, .int .i64 0, .int .i64 0] 26 (0, 0)) := by rw [hz2]; exact (Below.heap_alloc z1 _ p4 (Array.getElem?_eq_some_iff.1 hhpp4).1).trans hhpp4
    have hne : p4 ≠ p5 := by omega
    have hB5 : wB.heap.size ≤ p5 := by omega
    have ht4 := there_of_block hhpp4
    have ht5 := there_of_block hhpp5
    clear hhpp4 hhpp5 hz2 hp5
    refine RestS.step 7 rfl (by kernel_rfl) (by rfl) (fun K hK => ?_)
    refine wp_store_mid 26 (.tmp 4) (.tmp 25) rfl p4 0 #[.int .i64 l.cd, .int .i64 l.cw, .int .i64 l.ct, .int .i64 l.cs, .int .i64 l.gr, .int .i64 l.gb, .int .i64 l.gt, .int .i64 l.gs, .int .i64 l.go, .int .i64 l.ca, .int .i64 l.cl] rfl rfl ht4 rfl (by simp [Value.oneCell']) ?_
    simp only [Act.put]
    refine hK.out _ _ (bsc hSw (Nat.le_trans hsB hB4) _ _) ?_
    clear hK K
    obtain ⟨z3, hz3⟩ : ∃ z, z = z2.setCells p4 0 (#[.int .i64 l.cd, .int .i64 l.cw, .int .i64 l.ct, .int .i64 l.cs, .int .i64 l.gr, .int .i64 l.gb, .int .i64 l.gt, .int .i64 l.gs, .int .i64 l.go, .int .i64 l.ca, .int .i64 l.cl] : Array Value).toList := ⟨_, rfl⟩
    rw [← hz3]
    have hr4 : z3.rangeAt p4 0 (#[.int .i64 l.cd, .int .i64 l.cw, .int .i64 l.ct, .int .i64 l.cs, .int .i64 l.gr, .int .i64 l.gb, .int .i64 l.gt, .int .i64 l.gs, .int .i64 l.go, .int .i64 l.ca, .int .i64 l.cl] : Array Value).toList := by rw [hz3]; exact World.rangeAt_setCells_same _ _ _ _ ht4
    have ht5 : z3.there p5 0 5 := by rw [hz3]; exact World.there_setCells ht5 _ _ _
    have hSw : Below w1.heap.size w1 z3 := by rw [hz3]; exact bsc hSw (Nat.le_trans hsB hB4) _ _
    have HBB : Below wB.heap.size wB z3 := by rw [hz3]; exact bsc HBB hB4 _ _
    clear hz3 ht4
    refine RestS.step 8 rfl (by kernel_rfl) (by rfl) (fun K hK => ?_)
    refine wp_store_mid 24 (.tmp 5) (.tmp 28) rfl p5 0 #[.int .i64 l.gr, .int .i64 l.gb, .int .i64 l.gt, .int .i64 l.gs, .int .i64 l.go] rfl rfl ht5 rfl (by simp [Value.oneCell']) ?_
    simp only [Act.put]
    refine hK.out _ _ (bsc hSw (Nat.le_trans hsB hB5) _ _) ?_
    clear hK K
    obtain ⟨z4, hz4⟩ : ∃ z, z = z3.setCells p5 0 (#[.int .i64 l.gr, .int .i64 l.gb, .int .i64 l.gt, .int .i64 l.gs, .int .i64 l.go] : Array Value).toList := ⟨_, rfl⟩
    rw [← hz4]
    have hr4 : z4.rangeAt p4 0 (#[.int .i64 l.cd, .int .i64 l.cw, .int .i64 l.ct, .int .i64 l.cs, .int .i64 l.gr, .int .i64 l.gb, .int .i64 l.gt, .int .i64 l.gs, .int .i64 l.go, .int .i64 l.ca, .int .i64 l.cl] : Array Value).toList := by rw [hz4]; exact World.rangeAt_setCells_apart hr4 _ _ _ (.inl hne)
    have hr5 : z4.rangeAt p5 0 (#[.int .i64 l.gr, .int .i64 l.gb, .int .i64 l.gt, .int .i64 l.gs, .int .i64 l.go] : Array Value).toList := by rw [hz4]; exact World.rangeAt_setCells_same _ _ _ _ ht5
    have hSw : Below w1.heap.size w1 z4 := by rw [hz4]; exact bsc hSw (Nat.le_trans hsB hB5) _ _
    have HBB : Below wB.heap.size wB z4 := by rw [hz4]; exact bsc HBB hB5 _ _
    clear hz4 ht5
    refine wpAnyH_done (by kernel_rfl) ?_ _
    exact hRest _ _ _ _ _ _ _ _ _ _ _ _ _ _ _ _ _ _ _ p4 p5 z4 hr4 hr5 hSw HBB
  · go_simp
    refine hK.out _ _ (hSw.alloc hsS _) ?_
    clear hK K
    obtain ⟨z1, hz1⟩ : ∃ z, z = (wB.alloc (.cells #[.int .i64 0, .int .i64 0, .int .i64 0, .int .i64 0, .int .i64 0] 24)).drew := ⟨_, rfl⟩
    obtain ⟨p5, hp5⟩ : ∃ q, q = wB.heap.size := ⟨_, rfl⟩
    rw [← hz1, ← hp5]
    have hhpp5 : z1.heap[p5]? = some (.cells #[.int .i64 0, .int .i64 0, .int .i64 0, .int .i64 0, .int .i64 0] 24 (0, 0)) := by rw [hz1, hp5]; exact heap_alloc_new _ _
    have hSw : Below w1.heap.size w1 z1 := by rw [hz1]; exact hSw.alloc hsS _
    have HBB : Below wB.heap.size wB z1 := by rw [hz1]; exact HBB0.alloc (Nat.le_refl _) _
    have hsS : w1.heap.size ≤ z1.heap.size := hSw.size
    have hwB : wB.heap.size ≤ z1.heap.size := HBB.size
    have hlt1 : p5 < z1.heap.size := (Array.getElem?_eq_some_iff.1 hhpp5).1
    have hB5 : wB.heap.size ≤ p5 := by omega
    clear hz1 hp5
    refine RestS.step 5 rfl (by kernel_rfl) (by rfl) (fun K hK => ?_)
    go_simp
    refine hK.out _ _ (hSw.alloc hsS _) ?_
    clear hK K
    obtain ⟨z2, hz2⟩ : ∃ z, z = z1.alloc (.cells #[.int .i64 0, .int .i64 0, .int .i64 0, .int .i64 0, .int .i64 0, .int .i64 0, .int .i64 0, .int .i64 0, .int .i64 0, .int .i64 0, .int .i64 0] 26) := ⟨_, rfl⟩
    obtain ⟨p4, hp4⟩ : ∃ q, q = z1.heap.size := ⟨_, rfl⟩
    rw [← hz2, ← hp4]
    have hhpp4 : z2.heap[p4]? = some (.cells #[.int .i64 0, .int .i64 0, .int .i64 0, .int .i64 0, .int .i64 0, .int .i64 0, .int .i64 0, .int .i64 0, .int .i64 0, .int .i64 0, .int .i64 0] 26 (0, 0)) := by rw [hz2, hp4]; exact heap_alloc_new _ _
    have hSw : Below w1.heap.size w1 z2 := by rw [hz2]; exact hSw.alloc hsS _
    have HBB : Below wB.heap.size wB z2 := by rw [hz2]; exact HBB.alloc HBB.size _
    have hsS : w1.heap.size ≤ z2.heap.size := hSw.size
    have hhpp5 : z2.heap[p5]? = some (.cells #[.int .i64 0, .int .i64 0, .int .i64 0, .int .i64 0, .int .i64 0] 24 (0, 0)) := by rw [hz2]; exact (Below.heap_alloc z1 _ p5 (Array.getElem?_eq_some_iff.1 hhpp5).1).trans hhpp5
    have hne : p4 ≠ p5 := by omega
    have hB4 : wB.heap.size ≤ p4 := by omega
    have ht4 := there_of_block hhpp4
    have ht5 := there_of_block hhpp5
    clear hhpp4 hhpp5 hz2 hp4
    refine RestS.step 7 rfl (by kernel_rfl) (by rfl) (fun K hK => ?_)
    refine wp_store_mid 26 (.tmp 4) (.tmp 25) rfl p4 0 #[.int .i64 l.cd, .int .i64 l.cw, .int .i64 l.ct, .int .i64 l.cs, .int .i64 l.gr, .int .i64 l.gb, .int .i64 l.gt, .int .i64 l.gs, .int .i64 l.go, .int .i64 l.ca, .int .i64 l.cl] rfl rfl ht4 rfl (by simp [Value.oneCell']) ?_
    simp only [Act.put]
    refine hK.out _ _ (bsc hSw (Nat.le_trans hsB hB4) _ _) ?_
    clear hK K
    obtain ⟨z3, hz3⟩ : ∃ z, z = z2.setCells p4 0 (#[.int .i64 l.cd, .int .i64 l.cw, .int .i64 l.ct, .int .i64 l.cs, .int .i64 l.gr, .int .i64 l.gb, .int .i64 l.gt, .int .i64 l.gs, .int .i64 l.go, .int .i64 l.ca, .int .i64 l.cl] : Array Value).toList := ⟨_, rfl⟩
    rw [← hz3]
    have hr4 : z3.rangeAt p4 0 (#[.int .i64 l.cd, .int .i64 l.cw, .int .i64 l.ct, .int .i64 l.cs, .int .i64 l.gr, .int .i64 l.gb, .int .i64 l.gt, .int .i64 l.gs, .int .i64 l.go, .int .i64 l.ca, .int .i64 l.cl] : Array Value).toList := by rw [hz3]; exact World.rangeAt_setCells_same _ _ _ _ ht4
    have ht5 : z3.there p5 0 5 := by rw [hz3]; exact World.there_setCells ht5 _ _ _
    have hSw : Below w1.heap.size w1 z3 := by rw [hz3]; exact bsc hSw (Nat.le_trans hsB hB4) _ _
    have HBB : Below wB.heap.size wB z3 := by rw [hz3]; exact bsc HBB hB4 _ _
    clear hz3 ht4
    refine RestS.step 8 rfl (by kernel_rfl) (by rfl) (fun K hK => ?_)
    refine wp_store_mid 24 (.tmp 5) (.tmp 28) rfl p5 0 #[.int .i64 l.gr, .int .i64 l.gb, .int .i64 l.gt, .int .i64 l.gs, .int .i64 l.go] rfl rfl ht5 rfl (by simp [Value.oneCell']) ?_
    simp only [Act.put]
    refine hK.out _ _ (bsc hSw (Nat.le_trans hsB hB5) _ _) ?_
    clear hK K
    obtain ⟨z4, hz4⟩ : ∃ z, z = z3.setCells p5 0 (#[.int .i64 l.gr, .int .i64 l.gb, .int .i64 l.gt, .int .i64 l.gs, .int .i64 l.go] : Array Value).toList := ⟨_, rfl⟩
    rw [← hz4]
    have hr4 : z4.rangeAt p4 0 (#[.int .i64 l.cd, .int .i64 l.cw, .int .i64 l.ct, .int .i64 l.cs, .int .i64 l.gr, .int .i64 l.gb, .int .i64 l.gt, .int .i64 l.gs, .int .i64 l.go, .int .i64 l.ca, .int .i64 l.cl] : Array Value).toList := by rw [hz4]; exact World.rangeAt_setCells_apart hr4 _ _ _ (.inl hne)
    have hr5 : z4.rangeAt p5 0 (#[.int .i64 l.gr, .int .i64 l.gb, .int .i64 l.gt, .int .i64 l.gs, .int .i64 l.go] : Array Value).toList := by rw [hz4]; exact World.rangeAt_setCells_same _ _ _ _ ht5
    have hSw : Below w1.heap.size w1 z4 := by rw [hz4]; exact bsc hSw (Nat.le_trans hsB hB5) _ _
    have HBB : Below wB.heap.size wB z4 := by rw [hz4]; exact bsc HBB hB5 _ _
    clear hz4 ht5
    refine wpAnyH_done (by kernel_rfl) ?_ _
    exact hRest _ _ _ _ _ _ _ _ _ _ _ _ _ _ _ _ _ _ _ p4 p5 z4 hr4 hr5 hSw HBB

end Go.Proofs.Ytjjknjkpkoeelaa
