/- The walk of CodecAppends. -/
import Derived.Test.YtjpnhphnfbhpbaaAwake09
import Derived.Test.YtjpnhphnfbhpbaaCodecK
import Derived.Test.YtjpnhphnfbhpbaaSteps
set_option linter.unusedVariables false
namespace Go.Proofs.Ytjpnhphnfbhpbaa
open Go Go.RowKit Go.Lib

/-- What a call that appends leaves for the comparison behind it: the string of its result, in every later world. -/
theorem str_own {W : World} {base : Nat} {a : Option Addr} {n c : Nat} {l : List UInt8} (h : W.ownsRow base 5 1 (.slice a n c) n (bv l)) :
    ∀ W', Below W.heap.size W W' → (convert 25 9 (.slice a n c)).run Try.prog W' = .ok (.string (strB l)) W' := fun W' hb =>
  Sl.run_str (P := Try.prog) ((Sl.of_owns h (bv_one _)).2.below hb) 25 5 9 Try.underlying25 Try.underlying5 Try.underlying9

set_option maxRecDepth 100000 in
set_option maxHeartbeats 8000000 in
theorem appends_walk (a : Option Addr) (n c : Nat) (l : List UInt8) (u k : Int) (ax : Option Addr) (nx cx : Nat) (lx : List UInt8) (x0 x1 x2 x3 x4 x5 x6 x7 : UInt8) (w : World) (h : Sl w 1 a n c (bv l)) (hx : Sl w 1 ax nx cx (bv lx))
    (hu0 : 0 ≤ u) (hu1 : u < 18446744073709551616) (hk0 : -9223372036854775808 ≤ k) (hk1 : k ≤ 9223372036854775807) :
    Calls Try.prog 4 #[.slice a n c, .agg #[.int .u64 u, .int .i64 k, .slice ax nx cx, .int .u8 x0.toNat, .int .u8 x1.toNat, .int .u8 x2.toNat, .int .u8 x3.toNat, .int .u8 x4.toNat, .int .u8 x5.toNat, .int .u8 x6.toNat, .int .u8 x7.toNat]] w fun e w' => e = .returned (.bool true) ∧ Below w.heap.size w w' := by
  have hlen := h.len
  have hlenx := hx.len
  rw [bv_length, Nat.mul_one] at hlen hlenx
  have HL := Lib.hid hlen
  have HX := Lib.hid hlenx
  clear hlen hlenx
  have Hh := Lib.hid h
  have Hhx := Lib.hid hx
  clear h hx
  have hnn : 0 ≤ (n : Int) := by omega
  obtain ⟨nI, hnI⟩ : ∃ nI : Int, nI = (n : Int) := ⟨_, rfl⟩
  obtain ⟨nxI, hnxI⟩ : ∃ nI : Int, nI = (nx : Int) := ⟨_, rfl⟩
  go_enter Try.func4, Try.ntmps4
  go_wp2_with fail
  refine (awake09 _).mono ?_
  rintro e w1 ⟨rfl, hb1⟩
  have hs1 : w.heap.size < w1.heap.size := by have := hb1.size; simp at this; omega
  have HB1 := Lib.hid hb1
  have c2 : w1.cell? ⟨w.heap.size, 2, none⟩ = some (.slice ax nx cx) := below_cell hb1 (by simp) (by simp)
  have kc0 : ∀ x, Below w1.heap.size w1 x → x.cell? ⟨w.heap.size, 0, none⟩ = some (.int .u64 u) := fun x hx => below_cell hx hs1 (below_cell HB1.out (by simp) (by simp))
  have kc1 : ∀ x, Below w1.heap.size w1 x → x.cell? ⟨w.heap.size, 1, none⟩ = some (.int .i64 k) := fun x hx => below_cell hx hs1 (below_cell HB1.out (by simp) (by simp))
  have kc2 : ∀ x, Below w1.heap.size w1 x → x.cell? ⟨w.heap.size, 2, none⟩ = some (.slice ax nx cx) := fun x hx => below_cell hx hs1 c2
  have kr : ∀ x, Below w1.heap.size w1 x → x.rangeAt w.heap.size 3 (bv [x0, x1, x2, x3, x4, x5, x6, x7]) := by
    intro x hx j v hv
    have hj : j < 8 := by
      have := (List.getElem?_eq_some_iff.1 hv).1
      simpa [bv] using this
    refine below_cell hx hs1 (below_cell HB1.out (by simp) ?_)
    match j, hj with
    | 0, _ | 1, _ | 2, _ | 3, _ | 4, _ | 5, _ | 6, _ | 7, _ => simpa [bv] using hv
  clear hb1
  by_cases hbig : l.length > 50
  · have hbig' : (50 : Int) < n := by have := HL.out; omega
    go_wp2
    go_ret
    exact ⟨rfl, (((Below.refl w.heap.size w).alloc (Nat.le_refl _) _).trans (HB1.out.mono (by simp)))⟩
  by_cases hbigx : lx.length > 100
  · have hbig' : ¬ (50 : Int) < n := by have := HL.out; omega
    have hbigx' : (100 : Int) < nx := by have := HX.out; omega
    go_wp2
    go_ret
    exact ⟨rfl, (((Below.refl w.heap.size w).alloc (Nat.le_refl _) _).trans (HB1.out.mono (by simp)))⟩
  have hbig' : ¬ (50 : Int) < n := by have := HL.out; omega
  have hbigx' : ¬ (100 : Int) < nx := by have := HX.out; omega
  have hB1 : Below w.heap.size w w1 := ((Below.refl w.heap.size w).alloc (Nat.le_refl _) _).trans (HB1.out.mono (by simp))
  have hstr : ∀ x, Below w.heap.size w x → (convert 25 9 (.slice a n c)).run Try.prog x = .ok (.string (strB l)) x := fun x hx =>
    Sl.run_str (P := Try.prog) (Hh.out.below hx) 25 5 9 Try.underlying25 Try.underlying5 Try.underlying9
  have hstr1 := hstr w1 hB1
  go_wp2
  have HB := Lib.hid (show Below w1.heap.size w1 w1.drew from (Below.refl _ _).drew)
  have hs : w1.heap.size ≤ w1.drew.heap.size := Nat.le_refl _
  have hb1s : w.heap.size ≤ w1.heap.size := Nat.le_of_lt hs1
  have hl6 : l.length ≤ 1000000 := by omega
  have hx6 : lx.length ≤ 1000000 := by omega
  refine Rest.begin 57 (by kernel_rfl) (by kernel_rfl) ?_
  refine Rest.take 0 19 rfl (by kernel_rfl) (by kernel_rfl) (by kernel_rfl) (fun _ _ _ h => h) (by rfl) (by rfl) (by intro x hx; go_simp <;> with_reducible rfl) (by simp only [Act.put, List.setIfInBounds_toArray, List.set_cons_zero, List.set_cons_succ] <;> rfl) ?_
  refine Rest.take 1 20 rfl (by kernel_rfl) (by kernel_rfl) (by kernel_rfl) (fun _ _ _ h => h) (by rfl) (by rfl) (by intro x hx; go_simp <;> with_reducible rfl) (by simp only [Act.put, List.setIfInBounds_toArray, List.set_cons_zero, List.set_cons_succ] <;> rfl) ?_
  refine Rest.take 2 21 rfl (by kernel_rfl) (by kernel_rfl) (by kernel_rfl) (fun _ _ _ h => h) (by rfl) (by rfl) (by intro x hx; have hc := kc0 x (later HB hs hx); go_simp <;> with_reducible rfl) (by simp only [Act.put, List.setIfInBounds_toArray, List.set_cons_zero, List.set_cons_succ] <;> rfl) ?_
  refine Rest.take 5 24 rfl (by kernel_rfl) (by kernel_rfl) (by kernel_rfl) (fun _ _ _ h => h) (by rfl) (by rfl) (by intro x hx; go_simp <;> with_reducible rfl) (by simp only [Act.put, List.setIfInBounds_toArray, List.set_cons_zero, List.set_cons_succ] <;> rfl) ?_
  refine Rest.take 6 25 rfl (by kernel_rfl) (by kernel_rfl) (by kernel_rfl) (fun _ _ _ h => h) (by rfl) (by rfl) (by intro x hx; go_simp <;> with_reducible rfl) (by simp only [Act.put, List.setIfInBounds_toArray, List.set_cons_zero, List.set_cons_succ] <;> rfl) ?_
  refine Rest.take 7 26 rfl (by kernel_rfl) (by kernel_rfl) (by kernel_rfl) (fun _ _ _ h => h) (by rfl) (by rfl) (by intro x hx; have hc := kc0 x (later HB hs hx); go_simp <;> with_reducible rfl) (by simp only [Act.put, List.setIfInBounds_toArray, List.set_cons_zero, List.set_cons_succ] <;> rfl) ?_
  refine Rest.step 3 rfl (by kernel_rfl) (by rfl) (fun K hK => ?_)
  go_simp
  go_at_call 11
  refine (appendUint_any a n c l u _ (Hh.out.below (hB1.trans (HB.out.mono hb1s))) hl6 hu0 hu1).mono ?_
  skip
  rintro e wn ⟨ar, nr, cr, rfl, ho, hb⟩
  refine hK.out _ _ hb ?_
  clear hK K
  have HB := Lib.hid (HB.out.trans (hb.mono hs))
  have hs := Nat.le_trans hs hb.size
  refine Rest.take 4 23 rfl (by kernel_rfl) (by kernel_rfl) (by kernel_rfl) (fun _ _ _ h => h) (by rfl) (by rfl) (by intro x hx; have hc := str_own ho x hx; go_simp <;> with_reducible rfl) (by simp only [Act.put, List.setIfInBounds_toArray, List.set_cons_zero, List.set_cons_succ] <;> rfl) ?_
  refine Rest.step 8 rfl (by kernel_rfl) (by rfl) (fun K hK => ?_)
  go_simp
  go_at_call 14
  refine (refAppendUint_any a n c l u _ (Hh.out.below (hB1.trans (HB.out.mono hb1s))) hl6 hu0 hu1).mono ?_
  clear ho
  rintro e wn ⟨ar, nr, cr, rfl, ho, hb⟩
  refine hK.out _ _ hb ?_
  clear hK K
  have HB := Lib.hid (HB.out.trans (hb.mono hs))
  have hs := Nat.le_trans hs hb.size
  refine Rest.take 9 28 rfl (by kernel_rfl) (by kernel_rfl) (by kernel_rfl) (fun _ _ _ h => h) (by rfl) (by rfl) (by intro x hx; have hc := str_own ho x hx; go_simp <;> with_reducible rfl) (by simp only [Act.put, List.setIfInBounds_toArray, List.set_cons_zero, List.set_cons_succ] <;> rfl) ?_
  refine Rest.take 10 29 rfl (by kernel_rfl) (by kernel_rfl) (by kernel_rfl) (fun _ _ _ h => h) (by rfl) (by rfl) (by intro x hx; go_simp <;> with_reducible rfl) (by simp only [Act.put, List.setIfInBounds_toArray, List.set_cons_zero, List.set_cons_succ] <;> rfl) ?_
  refine Rest.take 11 30 rfl (by kernel_rfl) (by kernel_rfl) (by kernel_rfl) (fun _ _ _ h => h) (by rfl) (by rfl) (by intro x hx; go_simp <;> with_reducible rfl) (by simp only [Act.put, List.setIfInBounds_toArray, List.set_cons_zero, List.set_cons_succ] <;> rfl) ?_
  refine Rest.take 12 31 rfl (by kernel_rfl) (by kernel_rfl) (by kernel_rfl) (fun _ _ _ h => h) (by rfl) (by rfl) (by intro x hx; go_simp <;> with_reducible rfl) (by simp only [Act.put, List.setIfInBounds_toArray, List.set_cons_zero, List.set_cons_succ] <;> rfl) ?_
  refine Rest.take 13 32 rfl (by kernel_rfl) (by kernel_rfl) (by kernel_rfl) (fun _ _ _ h => h) (by rfl) (by rfl) (by intro x hx; go_simp <;> with_reducible rfl) (by simp only [Act.put, List.setIfInBounds_toArray, List.set_cons_zero, List.set_cons_succ] <;> rfl) ?_
  refine Rest.take 14 33 rfl (by kernel_rfl) (by kernel_rfl) (by kernel_rfl) (fun _ _ _ h => h) (by rfl) (by rfl) (by intro x hx; have hc := kc1 x (later HB hs hx); go_simp <;> with_reducible rfl) (by simp only [Act.put, List.setIfInBounds_toArray, List.set_cons_zero, List.set_cons_succ] <;> rfl) ?_
  refine Rest.take 17 36 rfl (by kernel_rfl) (by kernel_rfl) (by kernel_rfl) (fun _ _ _ h => h) (by rfl) (by rfl) (by intro x hx; go_simp <;> with_reducible rfl) (by simp only [Act.put, List.setIfInBounds_toArray, List.set_cons_zero, List.set_cons_succ] <;> rfl) ?_
  refine Rest.take 18 37 rfl (by kernel_rfl) (by kernel_rfl) (by kernel_rfl) (fun _ _ _ h => h) (by rfl) (by rfl) (by intro x hx; go_simp <;> with_reducible rfl) (by simp only [Act.put, List.setIfInBounds_toArray, List.set_cons_zero, List.set_cons_succ] <;> rfl) ?_
  refine Rest.take 19 38 rfl (by kernel_rfl) (by kernel_rfl) (by kernel_rfl) (fun _ _ _ h => h) (by rfl) (by rfl) (by intro x hx; have hc := kc1 x (later HB hs hx); go_simp <;> with_reducible rfl) (by simp only [Act.put, List.setIfInBounds_toArray, List.set_cons_zero, List.set_cons_succ] <;> rfl) ?_
  refine Rest.step 15 rfl (by kernel_rfl) (by rfl) (fun K hK => ?_)
  go_simp
  go_at_call 12
  refine (appendInt_any a n c l k _ (Hh.out.below (hB1.trans (HB.out.mono hb1s))) hl6 hk0 hk1).mono ?_
  clear ho
  rintro e wn ⟨ar, nr, cr, rfl, ho, hb⟩
  refine hK.out _ _ hb ?_
  clear hK K
  have HB := Lib.hid (HB.out.trans (hb.mono hs))
  have hs := Nat.le_trans hs hb.size
  refine Rest.take 16 35 rfl (by kernel_rfl) (by kernel_rfl) (by kernel_rfl) (fun _ _ _ h => h) (by rfl) (by rfl) (by intro x hx; have hc := str_own ho x hx; go_simp <;> with_reducible rfl) (by simp only [Act.put, List.setIfInBounds_toArray, List.set_cons_zero, List.set_cons_succ] <;> rfl) ?_
  refine Rest.step 20 rfl (by kernel_rfl) (by rfl) (fun K hK => ?_)
  go_simp
  go_at_call 15
  refine (refAppendInt_any a n c l k _ (Hh.out.below (hB1.trans (HB.out.mono hb1s))) hl6 hk0 hk1).mono ?_
  clear ho
  rintro e wn ⟨ar, nr, cr, rfl, ho, hb⟩
  refine hK.out _ _ hb ?_
  clear hK K
  have HB := Lib.hid (HB.out.trans (hb.mono hs))
  have hs := Nat.le_trans hs hb.size
  refine Rest.take 21 40 rfl (by kernel_rfl) (by kernel_rfl) (by kernel_rfl) (fun _ _ _ h => h) (by rfl) (by rfl) (by intro x hx; have hc := str_own ho x hx; go_simp <;> with_reducible rfl) (by simp only [Act.put, List.setIfInBounds_toArray, List.set_cons_zero, List.set_cons_succ] <;> rfl) ?_
  refine Rest.take 22 41 rfl (by kernel_rfl) (by kernel_rfl) (by kernel_rfl) (fun _ _ _ h => h) (by rfl) (by rfl) (by intro x hx; go_simp <;> with_reducible rfl) (by simp only [Act.put, List.setIfInBounds_toArray, List.set_cons_zero, List.set_cons_succ] <;> rfl) ?_
  refine Rest.take 23 42 rfl (by kernel_rfl) (by kernel_rfl) (by kernel_rfl) (fun _ _ _ h => h) (by rfl) (by rfl) (by intro x hx; go_simp <;> with_reducible rfl) (by simp only [Act.put, List.setIfInBounds_toArray, List.set_cons_zero, List.set_cons_succ] <;> rfl) ?_
  refine Rest.take 24 43 rfl (by kernel_rfl) (by kernel_rfl) (by kernel_rfl) (fun _ _ _ h => h) (by rfl) (by rfl) (by intro x hx; go_simp <;> with_reducible rfl) (by simp only [Act.put, List.setIfInBounds_toArray, List.set_cons_zero, List.set_cons_succ] <;> rfl) ?_
  refine Rest.take 25 44 rfl (by kernel_rfl) (by kernel_rfl) (by kernel_rfl) (fun _ _ _ h => h) (by rfl) (by rfl) (by intro x hx; go_simp <;> with_reducible rfl) (by simp only [Act.put, List.setIfInBounds_toArray, List.set_cons_zero, List.set_cons_succ] <;> rfl) ?_
  refine Rest.take 26 45 rfl (by kernel_rfl) (by kernel_rfl) (by kernel_rfl) (fun _ _ _ h => h) (by rfl) (by rfl) (by intro x hx; go_simp <;> with_reducible rfl) (by simp only [Act.put, List.setIfInBounds_toArray, List.set_cons_zero, List.set_cons_succ] <;> rfl) ?_
  refine Rest.take 27 46 rfl (by kernel_rfl) (by kernel_rfl) (by kernel_rfl) (fun _ _ _ h => h) (by rfl) (by rfl) (by intro x hx; have hc := kc2 x (later HB hs hx); go_simp <;> with_reducible rfl) (by simp only [Act.put, List.setIfInBounds_toArray, List.set_cons_zero, List.set_cons_succ] <;> rfl) ?_
  refine Rest.take 30 49 rfl (by kernel_rfl) (by kernel_rfl) (by kernel_rfl) (fun _ _ _ h => h) (by rfl) (by rfl) (by intro x hx; go_simp <;> with_reducible rfl) (by simp only [Act.put, List.setIfInBounds_toArray, List.set_cons_zero, List.set_cons_succ] <;> rfl) ?_
  refine Rest.take 31 50 rfl (by kernel_rfl) (by kernel_rfl) (by kernel_rfl) (fun _ _ _ h => h) (by rfl) (by rfl) (by intro x hx; go_simp <;> with_reducible rfl) (by simp only [Act.put, List.setIfInBounds_toArray, List.set_cons_zero, List.set_cons_succ] <;> rfl) ?_
  refine Rest.take 32 51 rfl (by kernel_rfl) (by kernel_rfl) (by kernel_rfl) (fun _ _ _ h => h) (by rfl) (by rfl) (by intro x hx; have hc := kc2 x (later HB hs hx); go_simp <;> with_reducible rfl) (by simp only [Act.put, List.setIfInBounds_toArray, List.set_cons_zero, List.set_cons_succ] <;> rfl) ?_
  refine Rest.step 28 rfl (by kernel_rfl) (by rfl) (fun K hK => ?_)
  go_simp
  go_at_call 16
  refine (appendBytes_any a n c l ax nx cx lx _ (Hh.out.below (hB1.trans (HB.out.mono hb1s))) hl6 (Hhx.out.below (hB1.trans (HB.out.mono hb1s))) hx6).mono ?_
  clear ho
  rintro e wn ⟨ar, nr, cr, rfl, ho, hb⟩
  refine hK.out _ _ hb ?_
  clear hK K
  have HB := Lib.hid (HB.out.trans (hb.mono hs))
  have hs := Nat.le_trans hs hb.size
  refine Rest.take 29 48 rfl (by kernel_rfl) (by kernel_rfl) (by kernel_rfl) (fun _ _ _ h => h) (by rfl) (by rfl) (by intro x hx; have hc := str_own ho x hx; go_simp <;> with_reducible rfl) (by simp only [Act.put, List.setIfInBounds_toArray, List.set_cons_zero, List.set_cons_succ] <;> rfl) ?_
  refine Rest.step 33 rfl (by kernel_rfl) (by rfl) (fun K hK => ?_)
  go_simp
  go_at_call 17
  refine (refAppendBytes_any a n c l ax nx cx lx _ (Hh.out.below (hB1.trans (HB.out.mono hb1s))) hl6 (Hhx.out.below (hB1.trans (HB.out.mono hb1s))) hx6).mono ?_
  clear ho
  rintro e wn ⟨ar, nr, cr, rfl, ho, hb⟩
  refine hK.out _ _ hb ?_
  clear hK K
  have HB := Lib.hid (HB.out.trans (hb.mono hs))
  have hs := Nat.le_trans hs hb.size
  refine Rest.take 34 53 rfl (by kernel_rfl) (by kernel_rfl) (by kernel_rfl) (fun _ _ _ h => h) (by rfl) (by rfl) (by intro x hx; have hc := str_own ho x hx; go_simp <;> with_reducible rfl) (by simp only [Act.put, List.setIfInBounds_toArray, List.set_cons_zero, List.set_cons_succ] <;> rfl) ?_
  refine Rest.take 35 54 rfl (by kernel_rfl) (by kernel_rfl) (by kernel_rfl) (fun _ _ _ h => h) (by rfl) (by rfl) (by intro x hx; go_simp <;> with_reducible rfl) (by simp only [Act.put, List.setIfInBounds_toArray, List.set_cons_zero, List.set_cons_succ] <;> rfl) ?_
  refine Rest.take 36 55 rfl (by kernel_rfl) (by kernel_rfl) (by kernel_rfl) (fun _ _ _ h => h) (by rfl) (by rfl) (by intro x hx; go_simp <;> with_reducible rfl) (by simp only [Act.put, List.setIfInBounds_toArray, List.set_cons_zero, List.set_cons_succ] <;> rfl) ?_
  refine Rest.take 37 56 rfl (by kernel_rfl) (by kernel_rfl) (by kernel_rfl) (fun _ _ _ h => h) (by rfl) (by rfl) (by intro x hx; go_simp <;> with_reducible rfl) (by simp only [Act.put, List.setIfInBounds_toArray, List.set_cons_zero, List.set_cons_succ] <;> rfl) ?_
  refine Rest.take 38 57 rfl (by kernel_rfl) (by kernel_rfl) (by kernel_rfl) (fun _ _ _ h => h) (by rfl) (by rfl) (by intro x hx; go_simp <;> with_reducible rfl) (by simp only [Act.put, List.setIfInBounds_toArray, List.set_cons_zero, List.set_cons_succ] <;> rfl) ?_
  refine Rest.take 39 58 rfl (by kernel_rfl) (by kernel_rfl) (by kernel_rfl) (fun _ _ _ h => h) (by rfl) (by rfl) (by intro x hx; go_simp <;> with_reducible rfl) (by simp only [Act.put, List.setIfInBounds_toArray, List.set_cons_zero, List.set_cons_succ] <;> rfl) ?_
  refine Rest.takeMid 40 59 rfl (by kernel_rfl) (by kernel_rfl) (by kernel_rfl) 31 _ _ 3 (bv [x0, x1, x2, x3, x4, x5, x6, x7]) _ (fun _ _ _ h => h) (by rfl) rfl rfl (fun x hx => kr x (later HB hs hx)) Try.underlying31 rfl rfl (by rfl) (by simp only [Act.put, List.setIfInBounds_toArray, List.set_cons_zero, List.set_cons_succ] <;> rfl) ?_
  refine Rest.take 43 62 rfl (by kernel_rfl) (by kernel_rfl) (by kernel_rfl) (fun _ _ _ h => h) (by rfl) (by rfl) (by intro x hx; go_simp <;> with_reducible rfl) (by simp only [Act.put, List.setIfInBounds_toArray, List.set_cons_zero, List.set_cons_succ] <;> rfl) ?_
  refine Rest.take 44 63 rfl (by kernel_rfl) (by kernel_rfl) (by kernel_rfl) (fun _ _ _ h => h) (by rfl) (by rfl) (by intro x hx; go_simp <;> with_reducible rfl) (by simp only [Act.put, List.setIfInBounds_toArray, List.set_cons_zero, List.set_cons_succ] <;> rfl) ?_
  refine Rest.takeMid 45 64 rfl (by kernel_rfl) (by kernel_rfl) (by kernel_rfl) 31 _ _ 3 (bv [x0, x1, x2, x3, x4, x5, x6, x7]) _ (fun _ _ _ h => h) (by rfl) rfl rfl (fun x hx => kr x (later HB hs hx)) Try.underlying31 rfl rfl (by rfl) (by simp only [Act.put, List.setIfInBounds_toArray, List.set_cons_zero, List.set_cons_succ] <;> rfl) ?_
  refine Rest.step 41 rfl (by kernel_rfl) (by rfl) (fun K hK => ?_)
  go_simp
  go_at_call 18
  refine (appendBlock_any a n c l x0 x1 x2 x3 x4 x5 x6 x7 _ (Hh.out.below (hB1.trans (HB.out.mono hb1s))) hl6).mono ?_
  clear ho
  rintro e wn ⟨ar, nr, cr, rfl, ho, hb⟩
  refine hK.out _ _ hb ?_
  clear hK K
  have HB := Lib.hid (HB.out.trans (hb.mono hs))
  have hs := Nat.le_trans hs hb.size
  refine Rest.take 42 61 rfl (by kernel_rfl) (by kernel_rfl) (by kernel_rfl) (fun _ _ _ h => h) (by rfl) (by rfl) (by intro x hx; have hc := str_own ho x hx; go_simp <;> with_reducible rfl) (by simp only [Act.put, List.setIfInBounds_toArray, List.set_cons_zero, List.set_cons_succ] <;> rfl) ?_
  refine Rest.step 46 rfl (by kernel_rfl) (by rfl) (fun K hK => ?_)
  go_simp
  go_at_call 19
  refine (refAppendBlock_any a n c l x0 x1 x2 x3 x4 x5 x6 x7 _ (Hh.out.below (hB1.trans (HB.out.mono hb1s))) hl6).mono ?_
  clear ho
  rintro e wn ⟨ar, nr, cr, rfl, ho, hb⟩
  refine hK.out _ _ hb ?_
  clear hK K
  have HB := Lib.hid (HB.out.trans (hb.mono hs))
  have hs := Nat.le_trans hs hb.size
  refine Rest.take 47 66 rfl (by kernel_rfl) (by kernel_rfl) (by kernel_rfl) (fun _ _ _ h => h) (by rfl) (by rfl) (by intro x hx; have hc := str_own ho x hx; go_simp <;> with_reducible rfl) (by simp only [Act.put, List.setIfInBounds_toArray, List.set_cons_zero, List.set_cons_succ] <;> rfl) ?_
  refine Rest.take 48 67 rfl (by kernel_rfl) (by kernel_rfl) (by kernel_rfl) (fun _ _ _ h => h) (by rfl) (by rfl) (by intro x hx; go_simp <;> with_reducible rfl) (by simp only [Act.put, List.setIfInBounds_toArray, List.set_cons_zero, List.set_cons_succ] <;> rfl) ?_
  refine Rest.take 49 68 rfl (by kernel_rfl) (by kernel_rfl) (by kernel_rfl) (fun _ _ _ h => h) (by rfl) (by rfl) (by intro x hx; go_simp <;> with_reducible rfl) (by simp only [Act.put, List.setIfInBounds_toArray, List.set_cons_zero, List.set_cons_succ] <;> rfl) ?_
  refine Rest.take 50 69 rfl (by kernel_rfl) (by kernel_rfl) (by kernel_rfl) (fun _ _ _ h => h) (by rfl) (by rfl) (by intro x hx; go_simp <;> with_reducible rfl) (by simp only [Act.put, List.setIfInBounds_toArray, List.set_cons_zero, List.set_cons_succ] <;> rfl) ?_
  refine Rest.take 51 70 rfl (by kernel_rfl) (by kernel_rfl) (by kernel_rfl) (fun _ _ _ h => h) (by rfl) (by rfl) (by intro x hx; go_simp <;> with_reducible rfl) (by simp only [Act.put, List.setIfInBounds_toArray, List.set_cons_zero, List.set_cons_succ] <;> rfl) ?_
  refine Rest.take 52 71 rfl (by kernel_rfl) (by kernel_rfl) (by kernel_rfl) (fun _ _ _ h => h) (by rfl) (by rfl) (by intro x hx; have hc := hstr x (hB1.trans ((later HB hs hx).mono hb1s)); go_simp <;> with_reducible rfl) (by simp only [Act.put, List.setIfInBounds_toArray, List.set_cons_zero, List.set_cons_succ] <;> rfl) ?_
  refine Rest.take 53 72 rfl (by kernel_rfl) (by kernel_rfl) (by kernel_rfl) (fun _ _ _ h => h) (by rfl) (by rfl) (by intro x hx; go_simp <;> with_reducible rfl) (by simp only [Act.put, List.setIfInBounds_toArray, List.set_cons_zero, List.set_cons_succ] <;> rfl) ?_
  refine Rest.take 54 73 rfl (by kernel_rfl) (by kernel_rfl) (by kernel_rfl) (fun _ _ _ h => h) (by rfl) (by rfl) (by intro x hx; go_simp <;> with_reducible rfl) (by simp only [Act.put, List.setIfInBounds_toArray, List.set_cons_zero, List.set_cons_succ] <;> rfl) ?_
  refine Rest.take 55 74 rfl (by kernel_rfl) (by kernel_rfl) (by kernel_rfl) (fun _ _ _ h => h) (by rfl) (by rfl) (by intro x hx; go_simp <;> with_reducible rfl) (by simp only [Act.put, List.setIfInBounds_toArray, List.set_cons_zero, List.set_cons_succ] <;> rfl) ?_
  refine Rest.take 56 4 rfl (by kernel_rfl) (by kernel_rfl) (by kernel_rfl) (fun _ _ _ h => h) (by rfl) (by rfl) (by intro x hx; go_simp <;> with_reducible rfl) (by simp only [Act.put, List.setIfInBounds_toArray, List.set_cons_zero, List.set_cons_succ] <;> rfl) ?_
  refine Rest.done (by kernel_rfl) ?_
  go_wp2
  go_ret
  exact ⟨rfl, hB1.trans (HB.out.mono hb1s)⟩

end Go.Proofs.Ytjpnhphnfbhpbaa
