/- The walk of CodecRoundTrip. -/
import Derived.Test.YtjpnhphnfbhpbaaAwake09
import Derived.Test.YtjpnhphnfbhpbaaCodecL
import Derived.Test.YtjpnhphnfbhpbaaCodecF
import Derived.Test.YtjpnhphnfbhpbaaCodecE
import Derived.Test.YtjpnhphnfbhpbaaCodecEI
import Derived.Test.YtjpnhphnfbhpbaaCodecKR
import Derived.Test.YtjpnhphnfbhpbaaCodecB
import Derived.Test.YtjpnhphnfbhpbaaCodecI
import Derived.Test.YtjpnhphnfbhpbaaCodecK
import Derived.Test.YtjpnhphnfbhpbaaVals
import Derived.Test.YtjpnhphnfbhpbaaEqBlock
import Derived.Test.YtjpnhphnfbhpbaaSteps
set_option linter.unusedVariables false
namespace Go.Proofs.Ytjpnhphnfbhpbaa
open Go Go.RowKit Go.Lib

set_option maxRecDepth 100000 in
set_option maxHeartbeats 8000000 in
theorem roundtrip_walk (a : Option Addr) (n c : Nat) (vs : List Vd) (w : World) (h : Sl w 11 a n c ((vs.map Vd.cells).flatten)) (hvn : vs.length = n) (hok : ∀ v ∈ vs, v.ok w) :
    Calls Try.prog 7 #[.slice a n c] w fun e w' => e = .returned (.bool true) ∧ Below w.heap.size w w' := by
  have hcap := h.cap
  have HN := Lib.hid hvn
  have hat := fun (i : Nat) (hi : i < vs.length) => vals_at h hok hi
  have Hat := Lib.hid hat
  have Hok := Lib.hid hok
  clear h hvn hok hat
  go_enter Try.func7, Try.ntmps7
  go_wp2_with fail
  refine (awake09 _).mono ?_
  rintro e w0 ⟨rfl, hb0⟩
  by_cases hbig : n > 10
  · have hbig' : (10 : Int) < n := by omega
    go_wp2
    go_ret
    exact ⟨rfl, hb0⟩
  have hbig' : ¬ (10 : Int) < n := by omega
  have HB0 := Lib.hid hb0
  clear hb0
  go_wp2_with fail
  go_loopw [3, 4] (fun bv' iv wr => ∃ (i : Nat) (ab : Option Addr) (nb cb : Nat), bv' = .slice ab nb cb ∧ iv = .int .i64 (i : Int) ∧ i ≤ n ∧ Hid (Sl wr 1 ab nb cb (bv (encs (vs.take i)))) ∧ Hid ((encs (vs.take i)).length ≤ i * 138) ∧ Hid (∀ j, (hj : j < i) → (hv : j < vs.length) → vs[j].x.length ≤ 100) ∧ Hid (Below w.heap.size w wr)) (fun _ iv _ => n - (intOf iv).toNat)
  case atStart => exact ⟨0, none, 0, 0, rfl, rfl, by omega, Lib.hid (by simpa [encs, bv] using Sl.nilv w0 1), Lib.hid (by simp [encs]), Lib.hid (fun j hj => by omega), HB0⟩
  case round =>
    obtain ⟨i, ab, nb, cb, rfl, rfl, hin, hsl, hle, hxs, hB⟩ := hrel
    by_cases hi : i < n
    · have hiI : (i : Int) < n := by omega
      have hi0 : (0 : Int) ≤ (i : Int) := by omega
      have hvi : i < vs.length := by have := HN.out; omega
      obtain ⟨b, off, ha, hr⟩ := Hat.out i hvi
      have hr := hr i hvi
      have hoi := Hok.out vs[i] (List.getElem_mem _)
      obtain ⟨vd, hvd⟩ : ∃ vd, vd = vs[i] := ⟨_, rfl⟩
      rw [← hvd] at hr hoi
      obtain ⟨u, k, ax, nx, cx, x, y⟩ := vd
      obtain ⟨x0, x1, x2, x3, x4, x5, x6, x7, hy⟩ := vd_y hoi
      simp only at hy
      subst hy
      have u0 := hoi.u0
      have u1 := hoi.u1
      have k0 := hoi.k0
      have k1 := hoi.k1
      have hsx := hoi.sl
      simp only at u0 u1 k0 k1 hsx
      have HVD := Lib.hid hvd
      have Hoi := Lib.hid hoi
      have hxl := hsx.len
      rw [bv_length, Nat.mul_one] at hxl
      have HXL := Lib.hid hxl
      have HSX := Lib.hid hsx
      have hbs : b < w.heap.size := by
        have := hr 0 (.int .u64 u) rfl
        exact World.block_lt_of_cell? w _ this
      have kc0 : ∀ z, Below w.heap.size w z → z.cell? ⟨b, off + i * 11, none⟩ = some (.int .u64 u) := fun z hz => below_cell hz hbs (hr 0 _ rfl)
      have kc1 : ∀ z, Below w.heap.size w z → z.cell? ⟨b, off + i * 11 + 1, none⟩ = some (.int .i64 k) := fun z hz => below_cell hz hbs (hr 1 _ rfl)
      have kc2 : ∀ z, Below w.heap.size w z → z.cell? ⟨b, off + i * 11 + 2, none⟩ = some (.slice ax nx cx) := fun z hz => below_cell hz hbs (hr 2 _ rfl)
      have kr : ∀ z, Below w.heap.size w z → z.rangeAt b (off + i * 11 + 3) (bv [x0, x1, x2, x3, x4, x5, x6, x7]) := fun z hz j v hv => below_cell hz hbs (by
        have := hr (3 + j) v (by
          rw [Vd.cells, List.getElem?_append_right (by simp)]
          simpa using hv)
        rwa [show off + i * 11 + (3 + j) = off + i * 11 + 3 + j by omega] at this)
      subst ha
      clear hvd hoi hxl hsx hr
      have c2 := kc2 wr hB.out
      by_cases hbx : x.length > 100
      · have hbx' : (100 : Int) < nx := by have := HXL.out; omega
        go_wp2
        go_ret
        exact ⟨rfl, hB.out⟩
      have hbx' : ¬ (100 : Int) < nx := by have := HXL.out; omega
      have hl1 := Lib.hid (uvarint_length64 (x := u.toNat) (by omega))
      have hl2 := Lib.hid (uvarint_length64 (x := zigzag k) (by have := zigzag_lt k0 k1; omega))
      have hl3 := Lib.hid (uvarint_length64 (x := x.length) (by omega))
      have hwr : w.heap.size ≤ wr.heap.size := hB.out.size
      go_wp2
      have HB := Lib.hid (show Below wr.heap.size wr wr.drew from (Below.refl _ _).drew)
      have hs : wr.heap.size ≤ wr.drew.heap.size := Nat.le_refl _
      refine Rest.begin 26 (by kernel_rfl) (by kernel_rfl) ?_
      refine Rest.take 0 33 rfl (by kernel_rfl) (by kernel_rfl) (by kernel_rfl) (fun _ _ _ h => h) (by rfl) (by rfl) (by intro z hz; go_simp <;> with_reducible rfl) (by simp only [Act.put, List.setIfInBounds_toArray, List.set_cons_zero, List.set_cons_succ] <;> rfl) ?_
      refine Rest.take 1 34 rfl (by kernel_rfl) (by kernel_rfl) (by kernel_rfl) (fun _ _ _ h => h) (by rfl) (by rfl) (by intro z hz; go_simp <;> with_reducible rfl) (by simp only [Act.put, List.setIfInBounds_toArray, List.set_cons_zero, List.set_cons_succ] <;> rfl) ?_
      refine Rest.take 2 35 rfl (by kernel_rfl) (by kernel_rfl) (by kernel_rfl) (fun _ _ _ h => h) (by rfl) (by rfl) (by intro z hz; go_simp <;> with_reducible rfl) (by simp only [Act.put, List.setIfInBounds_toArray, List.set_cons_zero, List.set_cons_succ] <;> rfl) ?_
      refine Rest.take 3 36 rfl (by kernel_rfl) (by kernel_rfl) (by kernel_rfl) (fun _ _ _ h => h) (by rfl) (by rfl) (by intro z hz; have hc := hiI; go_simp <;> with_reducible rfl) (by simp only [Act.put, List.setIfInBounds_toArray, List.set_cons_zero, List.set_cons_succ] <;> rfl) ?_
      refine Rest.take 4 37 rfl (by kernel_rfl) (by kernel_rfl) (by kernel_rfl) (fun _ _ _ h => h) (by rfl) (by rfl) (by intro z hz; go_simp <;> with_reducible rfl) (by simp only [Act.put, List.setIfInBounds_toArray, List.set_cons_zero, List.set_cons_succ] <;> rfl) ?_
      refine Rest.take 5 38 rfl (by kernel_rfl) (by kernel_rfl) (by kernel_rfl) (fun _ _ _ h => h) (by rfl) (by rfl) (by intro z hz; have hc := kc0 z (hB.out.trans ((later HB hs hz).mono hwr)); go_simp <;> with_reducible rfl) (by simp only [Act.put, List.setIfInBounds_toArray, List.set_cons_zero, List.set_cons_succ] <;> rfl) ?_
      refine Rest.take 7 40 rfl (by kernel_rfl) (by kernel_rfl) (by kernel_rfl) (fun _ _ _ h => h) (by rfl) (by rfl) (by intro z hz; go_simp <;> with_reducible rfl) (by simp only [Act.put, List.setIfInBounds_toArray, List.set_cons_zero, List.set_cons_succ] <;> rfl) ?_
      refine Rest.take 8 41 rfl (by kernel_rfl) (by kernel_rfl) (by kernel_rfl) (fun _ _ _ h => h) (by rfl) (by rfl) (by intro z hz; go_simp <;> with_reducible rfl) (by simp only [Act.put, List.setIfInBounds_toArray, List.set_cons_zero, List.set_cons_succ] <;> rfl) ?_
      refine Rest.take 9 42 rfl (by kernel_rfl) (by kernel_rfl) (by kernel_rfl) (fun _ _ _ h => h) (by rfl) (by rfl) (by intro z hz; have hc := hiI; go_simp <;> with_reducible rfl) (by simp only [Act.put, List.setIfInBounds_toArray, List.set_cons_zero, List.set_cons_succ] <;> rfl) ?_
      refine Rest.take 10 43 rfl (by kernel_rfl) (by kernel_rfl) (by kernel_rfl) (fun _ _ _ h => h) (by rfl) (by rfl) (by intro z hz; go_simp <;> with_reducible rfl) (by simp only [Act.put, List.setIfInBounds_toArray, List.set_cons_zero, List.set_cons_succ] <;> rfl) ?_
      refine Rest.take 11 44 rfl (by kernel_rfl) (by kernel_rfl) (by kernel_rfl) (fun _ _ _ h => h) (by rfl) (by rfl) (by intro z hz; have hc := kc1 z (hB.out.trans ((later HB hs hz).mono hwr)); go_simp <;> with_reducible rfl) (by simp only [Act.put, List.setIfInBounds_toArray, List.set_cons_zero, List.set_cons_succ] <;> rfl) ?_
      refine Rest.take 13 46 rfl (by kernel_rfl) (by kernel_rfl) (by kernel_rfl) (fun _ _ _ h => h) (by rfl) (by rfl) (by intro z hz; go_simp <;> with_reducible rfl) (by simp only [Act.put, List.setIfInBounds_toArray, List.set_cons_zero, List.set_cons_succ] <;> rfl) ?_
      refine Rest.take 14 47 rfl (by kernel_rfl) (by kernel_rfl) (by kernel_rfl) (fun _ _ _ h => h) (by rfl) (by rfl) (by intro z hz; go_simp <;> with_reducible rfl) (by simp only [Act.put, List.setIfInBounds_toArray, List.set_cons_zero, List.set_cons_succ] <;> rfl) ?_
      refine Rest.take 15 48 rfl (by kernel_rfl) (by kernel_rfl) (by kernel_rfl) (fun _ _ _ h => h) (by rfl) (by rfl) (by intro z hz; have hc := hiI; go_simp <;> with_reducible rfl) (by simp only [Act.put, List.setIfInBounds_toArray, List.set_cons_zero, List.set_cons_succ] <;> rfl) ?_
      refine Rest.take 16 49 rfl (by kernel_rfl) (by kernel_rfl) (by kernel_rfl) (fun _ _ _ h => h) (by rfl) (by rfl) (by intro z hz; go_simp <;> with_reducible rfl) (by simp only [Act.put, List.setIfInBounds_toArray, List.set_cons_zero, List.set_cons_succ] <;> rfl) ?_
      refine Rest.take 17 50 rfl (by kernel_rfl) (by kernel_rfl) (by kernel_rfl) (fun _ _ _ h => h) (by rfl) (by rfl) (by intro z hz; have hc := kc2 z (hB.out.trans ((later HB hs hz).mono hwr)); go_simp <;> with_reducible rfl) (by simp only [Act.put, List.setIfInBounds_toArray, List.set_cons_zero, List.set_cons_succ] <;> rfl) ?_
      refine Rest.take 19 52 rfl (by kernel_rfl) (by kernel_rfl) (by kernel_rfl) (fun _ _ _ h => h) (by rfl) (by rfl) (by intro z hz; go_simp <;> with_reducible rfl) (by simp only [Act.put, List.setIfInBounds_toArray, List.set_cons_zero, List.set_cons_succ] <;> rfl) ?_
      refine Rest.take 20 53 rfl (by kernel_rfl) (by kernel_rfl) (by kernel_rfl) (fun _ _ _ h => h) (by rfl) (by rfl) (by intro z hz; go_simp <;> with_reducible rfl) (by simp only [Act.put, List.setIfInBounds_toArray, List.set_cons_zero, List.set_cons_succ] <;> rfl) ?_
      refine Rest.take 21 54 rfl (by kernel_rfl) (by kernel_rfl) (by kernel_rfl) (fun _ _ _ h => h) (by rfl) (by rfl) (by intro z hz; have hc := hiI; go_simp <;> with_reducible rfl) (by simp only [Act.put, List.setIfInBounds_toArray, List.set_cons_zero, List.set_cons_succ] <;> rfl) ?_
      refine Rest.take 22 55 rfl (by kernel_rfl) (by kernel_rfl) (by kernel_rfl) (fun _ _ _ h => h) (by rfl) (by rfl) (by intro z hz; go_simp <;> with_reducible rfl) (by simp only [Act.put, List.setIfInBounds_toArray, List.set_cons_zero, List.set_cons_succ] <;> rfl) ?_
      refine Rest.takeMid 23 56 rfl (by kernel_rfl) (by kernel_rfl) (by kernel_rfl) 31 _ _ (off + i * 11 + 3) (bv [x0, x1, x2, x3, x4, x5, x6, x7]) _ (fun _ _ _ h => h) (by rfl) rfl rfl (fun z hz => kr z (hB.out.trans ((later HB hs hz).mono hwr))) Try.underlying31 rfl rfl (by rfl) (by simp only [Act.put, List.setIfInBounds_toArray, List.set_cons_zero, List.set_cons_succ] <;> rfl) ?_
      refine Rest.step 6 rfl (by kernel_rfl) (by rfl) (fun K hK => ?_)
      go_simp
      go_at_call 11
      refine (appendUint_any ab nb cb (encs (vs.take i)) u _ (hsl.out.below HB.out) (by have := hle.out; omega) u0 u1).mono ?_
      rintro e wn ⟨ar, nr, cr, rfl, ho, hb⟩
      refine hK.out _ _ hb ?_
      clear hK K
      have HB := Lib.hid (HB.out.trans (hb.mono hs))
      have hs := Nat.le_trans hs hb.size
      have HO := Lib.hid ho
      clear ho
      refine Rest.step 12 rfl (by kernel_rfl) (by rfl) (fun K hK => ?_)
      go_simp
      go_at_call 12
      refine (appendInt_any ar nr cr _ k _ (Sl.of_owns HO.out (bv_one _)).2 (by have := hle.out; have := hl1.out; simp only [List.length_append]; omega) k0 k1).mono ?_
      clear HO
      rintro e wn ⟨ar, nr, cr, rfl, ho, hb⟩
      refine hK.out _ _ hb ?_
      clear hK K
      have HB := Lib.hid (HB.out.trans (hb.mono hs))
      have hs := Nat.le_trans hs hb.size
      have HO := Lib.hid ho
      clear ho
      refine Rest.step 18 rfl (by kernel_rfl) (by rfl) (fun K hK => ?_)
      go_simp
      go_at_call 16
      refine (appendBytes_any ar nr cr _ ax nx cx x _ (Sl.of_owns HO.out (bv_one _)).2 (by have := hle.out; have := hl1.out; have := hl2.out; simp only [List.length_append]; omega) (HSX.out.below (hB.out.trans (HB.out.mono hwr))) (by omega)).mono ?_
      clear HO
      rintro e wn ⟨ar, nr, cr, rfl, ho, hb⟩
      refine hK.out _ _ hb ?_
      clear hK K
      have HB := Lib.hid (HB.out.trans (hb.mono hs))
      have hs := Nat.le_trans hs hb.size
      have HO := Lib.hid ho
      clear ho
      refine Rest.step 24 rfl (by kernel_rfl) (by rfl) (fun K hK => ?_)
      go_simp
      go_at_call 18
      refine (appendBlock_any ar nr cr _ x0 x1 x2 x3 x4 x5 x6 x7 _ (Sl.of_owns HO.out (bv_one _)).2 (by have := hle.out; have := hl1.out; have := hl2.out; have := hl3.out; simp only [List.length_append]; omega)).mono ?_
      clear HO
      rintro e wn ⟨ar, nr, cr, rfl, ho, hb⟩
      refine hK.out _ _ hb ?_
      clear hK K
      have HB := Lib.hid (HB.out.trans (hb.mono hs))
      have hs := Nat.le_trans hs hb.size
      have HO := Lib.hid ho
      clear ho
      refine Rest.take 25 3 rfl (by kernel_rfl) (by kernel_rfl) (by kernel_rfl) (fun _ _ _ h => h) (by rfl) (by rfl) (by intro z hz; go_simp <;> with_reducible rfl) (by simp only [Act.put, List.setIfInBounds_toArray, List.set_cons_zero, List.set_cons_succ] <;> rfl) ?_
      refine Rest.done (by kernel_rfl) ?_
      go_wp2
      go_roundw
      case rel =>
        refine ⟨i + 1, ar, nr, cr, rfl, by go_num, by omega, ?_, ?_, ?_, ?_⟩
        · refine Lib.hid ?_
          rw [encs_take hvi, ← HVD.out]
          have := (Sl.of_owns HO.out (bv_one _)).2
          simpa [Vd.enc, List.append_assoc] using this
        · refine Lib.hid ?_
          rw [encs_take hvi, ← HVD.out, List.length_append]
          have := Vd.len Hoi.out (by simpa using hbx)
          have := hle.out
          omega
        · refine Lib.hid fun j hj hv => ?_
          by_cases hji : j = i
          · subst hji
            rw [← HVD.out]
            simpa using hbx
          · exact hxs.out j (by omega) hv
        · exact Lib.hid (hB.out.trans (HB.out.mono hwr))
      case measure => simp [intOf]; omega
    · have hiI : ¬ (i : Int) < n := by omega
      obtain rfl : n = i := by omega
      have hsl2 := hsl.out
      have hle2 := hle.out
      rw [List.take_of_length_le (by have := HN.out; omega)] at hsl2 hle2
      have hxall : Hid (∀ j, (hv : j < vs.length) → vs[j].x.length ≤ 100) := Lib.hid (fun j hv => hxs.out j (by have := HN.out; omega) hv)
      have HSL := Lib.hid hsl2
      have hb0' := hB.out.size
      clear hsl hle hsl2 hxs
      go_wp2_with fail
      refine (new_any ab nb cb _ _ HSL.out (by omega)).mono ?_
      rintro e w3 ⟨q, rfl, R, hb3⟩
      have hB3 := Lib.hid (hB.out.trans (hb3.mono hb0'))
      obtain ⟨lo, hlo⟩ : ∃ lo, lo = wr.heap.size := ⟨_, rfl⟩
      obtain ⟨hi, hhi⟩ : ∃ hi, hi = w3.heap.size := ⟨_, rfl⟩
      rw [← hlo, ← hhi] at R
      have hlow : w.heap.size ≤ lo := by omega
      have HR3 := Lib.hid R
      clear HSL hb3 R hle2 hlo hhi hB hb0'
      go_wp2_with fail
      go_loopw [6] (fun iv wr => ∃ (i : Nat), iv = .int .i64 (i : Int) ∧ i ≤ n ∧ Hid (Rdr wr 61 lo hi q (some (encs (vs.drop i)))) ∧ Hid (Below w.heap.size w wr)) (fun iv _ => n - (intOf iv).toNat)
      case atStart => exact ⟨0, rfl, by omega, HR3, hB3⟩
      case round =>
        obtain ⟨i, rfl, hin, hR, hB⟩ := hrel
        by_cases hi' : i < n
        · have hiI : (i : Int) < n := by omega
          have hi0 : (0 : Int) ≤ (i : Int) := by omega
          have hvi : i < vs.length := by have := HN.out; omega
          obtain ⟨b, off, ha, hr⟩ := Hat.out i hvi
          have hr := hr i hvi
          have hoi := Hok.out vs[i] (List.getElem_mem _)
          obtain ⟨vd, hvd⟩ : ∃ vd, vd = vs[i] := ⟨_, rfl⟩
          rw [← hvd] at hr hoi
          obtain ⟨u, k, ax, nx, cx, x, y⟩ := vd
          obtain ⟨x0, x1, x2, x3, x4, x5, x6, x7, hy⟩ := vd_y hoi
          simp only at hy
          subst hy
          have u0 := hoi.u0
          have u1 := hoi.u1
          have k0 := hoi.k0
          have k1 := hoi.k1
          have hsx := hoi.sl
          simp only at u0 u1 k0 k1 hsx
          have HVD := Lib.hid hvd
          have Hoi := Lib.hid hoi
          have hxl := hsx.len
          rw [bv_length, Nat.mul_one] at hxl
          have HXL := Lib.hid hxl
          have HSX := Lib.hid hsx
          have hbs : b < w.heap.size := by
            have := hr 0 (.int .u64 u) rfl
            exact World.block_lt_of_cell? w _ this
          have kc0 : ∀ z, Below w.heap.size w z → z.cell? ⟨b, off + i * 11, none⟩ = some (.int .u64 u) := fun z hz => below_cell hz hbs (hr 0 _ rfl)
          have kc1 : ∀ z, Below w.heap.size w z → z.cell? ⟨b, off + i * 11 + 1, none⟩ = some (.int .i64 k) := fun z hz => below_cell hz hbs (hr 1 _ rfl)
          have kc2 : ∀ z, Below w.heap.size w z → z.cell? ⟨b, off + i * 11 + 2, none⟩ = some (.slice ax nx cx) := fun z hz => below_cell hz hbs (hr 2 _ rfl)
          have kr : ∀ z, Below w.heap.size w z → z.rangeAt b (off + i * 11 + 3) (bv [x0, x1, x2, x3, x4, x5, x6, x7]) := fun z hz j v hv => below_cell hz hbs (by
            have := hr (3 + j) v (by
              rw [Vd.cells, List.getElem?_append_right (by simp)]
              simpa using hv)
            rwa [show off + i * 11 + (3 + j) = off + i * 11 + 3 + j by omega] at this)
          subst ha
          clear hvd hoi hxl hsx hr
          have hR0 := hR.out
          rw [encs_drop hvi, ← HVD.out] at hR0
          have hxl100 : x.length ≤ 100 := by have := hxall.out i hvi; rw [← HVD.out] at this; exact this
          have HE1 := Lib.hid (read_u ⟨u, k, ax, nx, cx, x, [x0, x1, x2, x3, x4, x5, x6, x7]⟩ (encs (vs.drop (i + 1))) Hoi.out)
          have HE2 := Lib.hid (read_k ⟨u, k, ax, nx, cx, x, [x0, x1, x2, x3, x4, x5, x6, x7]⟩ (encs (vs.drop (i + 1))) Hoi.out)
          have HE3 := Lib.hid (read_x ⟨u, k, ax, nx, cx, x, [x0, x1, x2, x3, x4, x5, x6, x7]⟩ (encs (vs.drop (i + 1))) hxl100)
          have HE4 := Lib.hid (read_y ⟨u, k, ax, nx, cx, x, [x0, x1, x2, x3, x4, x5, x6, x7]⟩ (encs (vs.drop (i + 1))) Hoi.out)
          have HR0 := Lib.hid hR0
          have hwr : w.heap.size ≤ wr.heap.size := hB.out.size
          have hlt := HR0.out.lt_hi
          have hlo := HR0.out.lo_le
          clear hR hR0
          go_wp2_with fail
          refine (uint_any _ _ _ _ _ HR0.out).mono ?_
          rintro e w4 ⟨rfl, R4, g4⟩
          obtain ⟨e1, e2, e3⟩ := rdU_ok HE1.out
          rw [e1, e2, Int.toNat_of_nonneg u0]
          rw [e3] at R4
          have HR4 := Lib.hid R4
          have hB4 := Lib.hid (hB.out.trans (Below.of_grown g4 (by omega) hwr))
          clear e1 e2 e3 g4 R4 HR0 HE1
          go_wp2_with fail
          refine (int_any _ _ _ _ _ HR4.out).mono ?_
          rintro e w5 ⟨rfl, R5, g5⟩
          obtain ⟨e1, e2, e3⟩ := rdU_ok HE2.out
          rw [e1, e2, unzig_zigzag]
          rw [e3] at R5
          have HR5 := Lib.hid R5
          have hB5 := Lib.hid (hB4.out.trans (Below.of_grown g5 (by omega) hB4.out.size))
          clear e1 e2 e3 g5 R5 HR4 HE2 hB4
          go_wp2_with fail
          refine (bytes_any _ _ _ _ _ HR5.out).mono ?_
          rintro e w6 ⟨ar, nr, cr, rfl, SR, ins, R6, g6⟩
          obtain ⟨e1, e2, e3⟩ := b_ok HE3.out
          rw [e2]
          rw [e1] at SR
          rw [e3] at R6
          have HR6 := Lib.hid R6
          have HSR := Lib.hid SR
          have hins := Lib.hid ins
          have hB6 := Lib.hid (hB5.out.trans (Below.of_grown g6 (by omega) hB5.out.size))
          clear e1 e2 e3 g6 R6 SR ins HR5 HE3 hB5
          go_wp2_with fail
          refine (block_any _ _ _ _ _ HR6.out).mono ?_
          rintro e w7 ⟨rfl, R7, g7⟩
          obtain ⟨e1, e2, e3⟩ := k_ok HE4.out
          rw [e1, e2]
          rw [e3] at R7
          have HR7 := Lib.hid R7
          have hB7 := Lib.hid (hB6.out.trans (Below.of_grown g7 (by omega) hB6.out.size))
          have hhi6 := HR6.out.hi_le
          have hhi7 := HR7.out.hi_le
          have HSR7 := Lib.hid (HSR.out.keep (fun kk hkk ad had e => g7.block kk hkk (by intro e'; simp only [Option.some.injEq] at e'; have := hins.out ad had; omega)))
          clear e1 e2 e3 g7 R7 HR6 HE4 hB6 HSR hhi6
          go_wp2_with (with_reducible refine W_stop_store 31 ?_)
          have hcell : (w7.alloc (.cells #[.int .u8 0, .int .u8 0, .int .u8 0, .int .u8 0, .int .u8 0, .int .u8 0, .int .u8 0, .int .u8 0] 31)).heap[w7.heap.size]? = some (.cells #[.int .u8 0, .int .u8 0, .int .u8 0, .int .u8 0, .int .u8 0, .int .u8 0, .int .u8 0, .int .u8 0] 31 (0, 0)) := heap_alloc_new _ _
          refine Lib.hid (W_store_row 31 w7.heap.size (bv [x0, x1, x2, x3, x4, x5, x6, x7]).toArray 31 _ rfl rfl hcell (by kernel_rfl) rfl (all_oneCell_toArray (bv_one _)) ?_)
          have hrow := setRow_at (cells := (bv [x0, x1, x2, x3, x4, x5, x6, x7]).toArray) hcell
          have hb8 := below_setRow ((Below.refl w7.heap.size w7).alloc (Nat.le_refl _) (.cells #[.int .u8 0, .int .u8 0, .int .u8 0, .int .u8 0, .int .u8 0, .int .u8 0, .int .u8 0, .int .u8 0] 31)) (Nat.le_refl w7.heap.size) (bv [x0, x1, x2, x3, x4, x5, x6, x7]).toArray
          obtain ⟨w8, hw8⟩ : ∃ w8, w8 = ((w7.alloc (.cells #[.int .u8 0, .int .u8 0, .int .u8 0, .int .u8 0, .int .u8 0, .int .u8 0, .int .u8 0, .int .u8 0] 31)).setRow w7.heap.size (bv [x0, x1, x2, x3, x4, x5, x6, x7]).toArray) := ⟨_, rfl⟩
          have h78 : w7.heap.size < w8.heap.size := by
            rw [hw8]
            have h := (grownBy_setRow (w7.alloc (.cells #[.int .u8 0, .int .u8 0, .int .u8 0, .int .u8 0, .int .u8 0, .int .u8 0, .int .u8 0, .int .u8 0] 31)) w7.heap.size (bv [x0, x1, x2, x3, x4, x5, x6, x7]).toArray).size
            exact Nat.lt_of_lt_of_le (by simp) h
          rw [← hw8] at hrow hb8 ⊢
          have hwr7 := hB7.out.size
          have hB := Lib.hid (hB7.out.trans (hb8.mono hwr7))
          have hwr := hB.out.size
          have HR8 := Lib.hid (HR7.out.below hb8 hhi7)
          have HSR8 := Lib.hid (HSR7.out.below hb8)
          have kq : ∀ z, Below w8.heap.size w8 z → z.rangeAt w7.heap.size 0 (bv [x0, x1, x2, x3, x4, x5, x6, x7]) := fun z hz j v hv => below_cell hz h78 (by
            rw [Nat.zero_add, cell_of_row w8 _ j _ _ _ hrow]
            simpa using hv)
          have hsrd : ∀ z, Below w8.heap.size w8 z → (convert 25 9 (.slice ar nr cr)).run Try.prog z = .ok (.string (strB x)) z := fun z hz =>
            Sl.run_str (P := Try.prog) (HSR8.out.below hz) 25 5 9 Try.underlying25 Try.underlying5 Try.underlying9
          have hsrx : ∀ z, Below w8.heap.size w8 z → (convert 25 9 (.slice ax nx cx)).run Try.prog z = .ok (.string (strB x)) z := fun z hz =>
            Sl.run_str (P := Try.prog) (HSX.out.below (hB.out.trans (hz.mono hwr))) 25 5 9 Try.underlying25 Try.underlying5 Try.underlying9
          clear hrow hb8 hcell hw8 HR7 HSR7 hB7 HSR8 hins
          go_wp2
          have HB := Lib.hid (show Below w8.heap.size w8 w8.drew from (Below.refl _ _).drew)
          have hs : w8.heap.size ≤ w8.drew.heap.size := Nat.le_refl _
          refine Rest.begin 52 (by kernel_rfl) (by kernel_rfl) ?_
          refine Rest.take 0 88 rfl (by kernel_rfl) (by kernel_rfl) (by kernel_rfl) (fun _ _ _ h => h) (by rfl) (by rfl) (by intro z hz; go_simp <;> with_reducible rfl) (by simp only [Act.put, List.setIfInBounds_toArray, List.set_cons_zero, List.set_cons_succ] <;> rfl) ?_
          refine Rest.take 1 89 rfl (by kernel_rfl) (by kernel_rfl) (by kernel_rfl) (fun _ _ _ h => h) (by rfl) (by rfl) (by intro z hz; go_simp <;> with_reducible rfl) (by simp only [Act.put, List.setIfInBounds_toArray, List.set_cons_zero, List.set_cons_succ] <;> rfl) ?_
          refine Rest.take 2 90 rfl (by kernel_rfl) (by kernel_rfl) (by kernel_rfl) (fun _ _ _ h => h) (by rfl) (by rfl) (by intro z hz; go_simp <;> with_reducible rfl) (by simp only [Act.put, List.setIfInBounds_toArray, List.set_cons_zero, List.set_cons_succ] <;> rfl) ?_
          refine Rest.take 3 91 rfl (by kernel_rfl) (by kernel_rfl) (by kernel_rfl) (fun _ _ _ h => h) (by rfl) (by rfl) (by intro z hz; go_simp <;> with_reducible rfl) (by simp only [Act.put, List.setIfInBounds_toArray, List.set_cons_zero, List.set_cons_succ] <;> rfl) ?_
          refine Rest.take 4 92 rfl (by kernel_rfl) (by kernel_rfl) (by kernel_rfl) (fun _ _ _ h => h) (by rfl) (by rfl) (by intro z hz; go_simp <;> with_reducible rfl) (by simp only [Act.put, List.setIfInBounds_toArray, List.set_cons_zero, List.set_cons_succ] <;> rfl) ?_
          refine Rest.take 5 93 rfl (by kernel_rfl) (by kernel_rfl) (by kernel_rfl) (fun _ _ _ h => h) (by rfl) (by rfl) (by intro z hz; go_simp <;> with_reducible rfl) (by simp only [Act.put, List.setIfInBounds_toArray, List.set_cons_zero, List.set_cons_succ] <;> rfl) ?_
          refine Rest.take 6 94 rfl (by kernel_rfl) (by kernel_rfl) (by kernel_rfl) (fun _ _ _ h => h) (by rfl) (by rfl) (by intro z hz; go_simp <;> with_reducible rfl) (by simp only [Act.put, List.setIfInBounds_toArray, List.set_cons_zero, List.set_cons_succ] <;> rfl) ?_
          refine Rest.take 7 95 rfl (by kernel_rfl) (by kernel_rfl) (by kernel_rfl) (fun _ _ _ h => h) (by rfl) (by rfl) (by intro z hz; go_simp <;> with_reducible rfl) (by simp only [Act.put, List.setIfInBounds_toArray, List.set_cons_zero, List.set_cons_succ] <;> rfl) ?_
          refine Rest.take 8 96 rfl (by kernel_rfl) (by kernel_rfl) (by kernel_rfl) (fun _ _ _ h => h) (by rfl) (by rfl) (by intro z hz; go_simp <;> with_reducible rfl) (by simp only [Act.put, List.setIfInBounds_toArray, List.set_cons_zero, List.set_cons_succ] <;> rfl) ?_
          refine Rest.take 9 97 rfl (by kernel_rfl) (by kernel_rfl) (by kernel_rfl) (fun _ _ _ h => h) (by rfl) (by rfl) (by intro z hz; go_simp <;> with_reducible rfl) (by simp only [Act.put, List.setIfInBounds_toArray, List.set_cons_zero, List.set_cons_succ] <;> rfl) ?_
          refine Rest.take 10 98 rfl (by kernel_rfl) (by kernel_rfl) (by kernel_rfl) (fun _ _ _ h => h) (by rfl) (by rfl) (by intro z hz; go_simp <;> with_reducible rfl) (by simp only [Act.put, List.setIfInBounds_toArray, List.set_cons_zero, List.set_cons_succ] <;> rfl) ?_
          refine Rest.take 11 99 rfl (by kernel_rfl) (by kernel_rfl) (by kernel_rfl) (fun _ _ _ h => h) (by rfl) (by rfl) (by intro z hz; go_simp <;> with_reducible rfl) (by simp only [Act.put, List.setIfInBounds_toArray, List.set_cons_zero, List.set_cons_succ] <;> rfl) ?_
          refine Rest.take 12 100 rfl (by kernel_rfl) (by kernel_rfl) (by kernel_rfl) (fun _ _ _ h => h) (by rfl) (by rfl) (by intro z hz; go_simp <;> with_reducible rfl) (by simp only [Act.put, List.setIfInBounds_toArray, List.set_cons_zero, List.set_cons_succ] <;> rfl) ?_
          refine Rest.take 13 101 rfl (by kernel_rfl) (by kernel_rfl) (by kernel_rfl) (fun _ _ _ h => h) (by rfl) (by rfl) (by intro z hz; go_simp <;> with_reducible rfl) (by simp only [Act.put, List.setIfInBounds_toArray, List.set_cons_zero, List.set_cons_succ] <;> rfl) ?_
          refine Rest.take 14 102 rfl (by kernel_rfl) (by kernel_rfl) (by kernel_rfl) (fun _ _ _ h => h) (by rfl) (by rfl) (by intro z hz; go_simp <;> with_reducible rfl) (by simp only [Act.put, List.setIfInBounds_toArray, List.set_cons_zero, List.set_cons_succ] <;> rfl) ?_
          refine Rest.take 15 103 rfl (by kernel_rfl) (by kernel_rfl) (by kernel_rfl) (fun _ _ _ h => h) (by rfl) (by rfl) (by intro z hz; go_simp <;> with_reducible rfl) (by simp only [Act.put, List.setIfInBounds_toArray, List.set_cons_zero, List.set_cons_succ] <;> rfl) ?_
          refine Rest.take 16 104 rfl (by kernel_rfl) (by kernel_rfl) (by kernel_rfl) (fun _ _ _ h => h) (by rfl) (by rfl) (by intro z hz; go_simp <;> with_reducible rfl) (by simp only [Act.put, List.setIfInBounds_toArray, List.set_cons_zero, List.set_cons_succ] <;> rfl) ?_
          refine Rest.take 17 105 rfl (by kernel_rfl) (by kernel_rfl) (by kernel_rfl) (fun _ _ _ h => h) (by rfl) (by rfl) (by intro z hz; go_simp <;> with_reducible rfl) (by simp only [Act.put, List.setIfInBounds_toArray, List.set_cons_zero, List.set_cons_succ] <;> rfl) ?_
          refine Rest.take 18 106 rfl (by kernel_rfl) (by kernel_rfl) (by kernel_rfl) (fun _ _ _ h => h) (by rfl) (by rfl) (by intro z hz; have hc := hiI; go_simp <;> with_reducible rfl) (by simp only [Act.put, List.setIfInBounds_toArray, List.set_cons_zero, List.set_cons_succ] <;> rfl) ?_
          refine Rest.take 19 107 rfl (by kernel_rfl) (by kernel_rfl) (by kernel_rfl) (fun _ _ _ h => h) (by rfl) (by rfl) (by intro z hz; go_simp <;> with_reducible rfl) (by simp only [Act.put, List.setIfInBounds_toArray, List.set_cons_zero, List.set_cons_succ] <;> rfl) ?_
          refine Rest.take 20 108 rfl (by kernel_rfl) (by kernel_rfl) (by kernel_rfl) (fun _ _ _ h => h) (by rfl) (by rfl) (by intro z hz; have hc := kc0 z (hB.out.trans ((later HB hs hz).mono hwr)); go_simp <;> with_reducible rfl) (by simp only [Act.put, List.setIfInBounds_toArray, List.set_cons_zero, List.set_cons_succ] <;> rfl) ?_
          refine Rest.take 21 109 rfl (by kernel_rfl) (by kernel_rfl) (by kernel_rfl) (fun _ _ _ h => h) (by rfl) (by rfl) (by intro z hz; go_simp <;> with_reducible rfl) (by simp only [Act.put, List.setIfInBounds_toArray, List.set_cons_zero, List.set_cons_succ] <;> rfl) ?_
          refine Rest.take 22 110 rfl (by kernel_rfl) (by kernel_rfl) (by kernel_rfl) (fun _ _ _ h => h) (by rfl) (by rfl) (by intro z hz; go_simp <;> with_reducible rfl) (by simp only [Act.put, List.setIfInBounds_toArray, List.set_cons_zero, List.set_cons_succ] <;> rfl) ?_
          refine Rest.take 23 111 rfl (by kernel_rfl) (by kernel_rfl) (by kernel_rfl) (fun _ _ _ h => h) (by rfl) (by rfl) (by intro z hz; go_simp <;> with_reducible rfl) (by simp only [Act.put, List.setIfInBounds_toArray, List.set_cons_zero, List.set_cons_succ] <;> rfl) ?_
          refine Rest.take 24 112 rfl (by kernel_rfl) (by kernel_rfl) (by kernel_rfl) (fun _ _ _ h => h) (by rfl) (by rfl) (by intro z hz; go_simp <;> with_reducible rfl) (by simp only [Act.put, List.setIfInBounds_toArray, List.set_cons_zero, List.set_cons_succ] <;> rfl) ?_
          refine Rest.take 25 113 rfl (by kernel_rfl) (by kernel_rfl) (by kernel_rfl) (fun _ _ _ h => h) (by rfl) (by rfl) (by intro z hz; go_simp <;> with_reducible rfl) (by simp only [Act.put, List.setIfInBounds_toArray, List.set_cons_zero, List.set_cons_succ] <;> rfl) ?_
          refine Rest.take 26 114 rfl (by kernel_rfl) (by kernel_rfl) (by kernel_rfl) (fun _ _ _ h => h) (by rfl) (by rfl) (by intro z hz; go_simp <;> with_reducible rfl) (by simp only [Act.put, List.setIfInBounds_toArray, List.set_cons_zero, List.set_cons_succ] <;> rfl) ?_
          refine Rest.take 27 115 rfl (by kernel_rfl) (by kernel_rfl) (by kernel_rfl) (fun _ _ _ h => h) (by rfl) (by rfl) (by intro z hz; have hc := hiI; go_simp <;> with_reducible rfl) (by simp only [Act.put, List.setIfInBounds_toArray, List.set_cons_zero, List.set_cons_succ] <;> rfl) ?_
          refine Rest.take 28 116 rfl (by kernel_rfl) (by kernel_rfl) (by kernel_rfl) (fun _ _ _ h => h) (by rfl) (by rfl) (by intro z hz; go_simp <;> with_reducible rfl) (by simp only [Act.put, List.setIfInBounds_toArray, List.set_cons_zero, List.set_cons_succ] <;> rfl) ?_
          refine Rest.take 29 117 rfl (by kernel_rfl) (by kernel_rfl) (by kernel_rfl) (fun _ _ _ h => h) (by rfl) (by rfl) (by intro z hz; have hc := kc1 z (hB.out.trans ((later HB hs hz).mono hwr)); go_simp <;> with_reducible rfl) (by simp only [Act.put, List.setIfInBounds_toArray, List.set_cons_zero, List.set_cons_succ] <;> rfl) ?_
          refine Rest.take 30 118 rfl (by kernel_rfl) (by kernel_rfl) (by kernel_rfl) (fun _ _ _ h => h) (by rfl) (by rfl) (by intro z hz; go_simp <;> with_reducible rfl) (by simp only [Act.put, List.setIfInBounds_toArray, List.set_cons_zero, List.set_cons_succ] <;> rfl) ?_
          refine Rest.take 31 119 rfl (by kernel_rfl) (by kernel_rfl) (by kernel_rfl) (fun _ _ _ h => h) (by rfl) (by rfl) (by intro z hz; go_simp <;> with_reducible rfl) (by simp only [Act.put, List.setIfInBounds_toArray, List.set_cons_zero, List.set_cons_succ] <;> rfl) ?_
          refine Rest.take 32 120 rfl (by kernel_rfl) (by kernel_rfl) (by kernel_rfl) (fun _ _ _ h => h) (by rfl) (by rfl) (by intro z hz; go_simp <;> with_reducible rfl) (by simp only [Act.put, List.setIfInBounds_toArray, List.set_cons_zero, List.set_cons_succ] <;> rfl) ?_
          refine Rest.take 33 121 rfl (by kernel_rfl) (by kernel_rfl) (by kernel_rfl) (fun _ _ _ h => h) (by rfl) (by rfl) (by intro z hz; go_simp <;> with_reducible rfl) (by simp only [Act.put, List.setIfInBounds_toArray, List.set_cons_zero, List.set_cons_succ] <;> rfl) ?_
          refine Rest.take 34 122 rfl (by kernel_rfl) (by kernel_rfl) (by kernel_rfl) (fun _ _ _ h => h) (by rfl) (by rfl) (by intro z hz; have hc := hsrd z (later HB hs hz); go_simp <;> with_reducible rfl) (by simp only [Act.put, List.setIfInBounds_toArray, List.set_cons_zero, List.set_cons_succ] <;> rfl) ?_
          refine Rest.take 35 123 rfl (by kernel_rfl) (by kernel_rfl) (by kernel_rfl) (fun _ _ _ h => h) (by rfl) (by rfl) (by intro z hz; go_simp <;> with_reducible rfl) (by simp only [Act.put, List.setIfInBounds_toArray, List.set_cons_zero, List.set_cons_succ] <;> rfl) ?_
          refine Rest.take 36 124 rfl (by kernel_rfl) (by kernel_rfl) (by kernel_rfl) (fun _ _ _ h => h) (by rfl) (by rfl) (by intro z hz; go_simp <;> with_reducible rfl) (by simp only [Act.put, List.setIfInBounds_toArray, List.set_cons_zero, List.set_cons_succ] <;> rfl) ?_
          refine Rest.take 37 125 rfl (by kernel_rfl) (by kernel_rfl) (by kernel_rfl) (fun _ _ _ h => h) (by rfl) (by rfl) (by intro z hz; have hc := hiI; go_simp <;> with_reducible rfl) (by simp only [Act.put, List.setIfInBounds_toArray, List.set_cons_zero, List.set_cons_succ] <;> rfl) ?_
          refine Rest.take 38 126 rfl (by kernel_rfl) (by kernel_rfl) (by kernel_rfl) (fun _ _ _ h => h) (by rfl) (by rfl) (by intro z hz; go_simp <;> with_reducible rfl) (by simp only [Act.put, List.setIfInBounds_toArray, List.set_cons_zero, List.set_cons_succ] <;> rfl) ?_
          refine Rest.take 39 127 rfl (by kernel_rfl) (by kernel_rfl) (by kernel_rfl) (fun _ _ _ h => h) (by rfl) (by rfl) (by intro z hz; have hc := kc2 z (hB.out.trans ((later HB hs hz).mono hwr)); go_simp <;> with_reducible rfl) (by simp only [Act.put, List.setIfInBounds_toArray, List.set_cons_zero, List.set_cons_succ] <;> rfl) ?_
          refine Rest.take 40 128 rfl (by kernel_rfl) (by kernel_rfl) (by kernel_rfl) (fun _ _ _ h => h) (by rfl) (by rfl) (by intro z hz; have hc := hsrx z (later HB hs hz); go_simp <;> with_reducible rfl) (by simp only [Act.put, List.setIfInBounds_toArray, List.set_cons_zero, List.set_cons_succ] <;> rfl) ?_
          refine Rest.take 41 129 rfl (by kernel_rfl) (by kernel_rfl) (by kernel_rfl) (fun _ _ _ h => h) (by rfl) (by rfl) (by intro z hz; go_simp <;> with_reducible rfl) (by simp only [Act.put, List.setIfInBounds_toArray, List.set_cons_zero, List.set_cons_succ] <;> rfl) ?_
          refine Rest.take 42 130 rfl (by kernel_rfl) (by kernel_rfl) (by kernel_rfl) (fun _ _ _ h => h) (by rfl) (by rfl) (by intro z hz; go_simp <;> with_reducible rfl) (by simp only [Act.put, List.setIfInBounds_toArray, List.set_cons_zero, List.set_cons_succ] <;> rfl) ?_
          refine Rest.take 43 131 rfl (by kernel_rfl) (by kernel_rfl) (by kernel_rfl) (fun _ _ _ h => h) (by rfl) (by rfl) (by intro z hz; go_simp <;> with_reducible rfl) (by simp only [Act.put, List.setIfInBounds_toArray, List.set_cons_zero, List.set_cons_succ] <;> rfl) ?_
          refine Rest.takeMid 44 132 rfl (by kernel_rfl) (by kernel_rfl) (by kernel_rfl) 31 _ _ 0 (bv [x0, x1, x2, x3, x4, x5, x6, x7]) _ (fun _ _ _ h => h) (by rfl) rfl rfl (fun z hz => kq z (later HB hs hz)) Try.underlying31 rfl rfl (by rfl) (by simp only [Act.put, List.setIfInBounds_toArray, List.set_cons_zero, List.set_cons_succ] <;> rfl) ?_
          refine Rest.take 45 133 rfl (by kernel_rfl) (by kernel_rfl) (by kernel_rfl) (fun _ _ _ h => h) (by rfl) (by rfl) (by intro z hz; go_simp <;> with_reducible rfl) (by simp only [Act.put, List.setIfInBounds_toArray, List.set_cons_zero, List.set_cons_succ] <;> rfl) ?_
          refine Rest.take 46 134 rfl (by kernel_rfl) (by kernel_rfl) (by kernel_rfl) (fun _ _ _ h => h) (by rfl) (by rfl) (by intro z hz; go_simp <;> with_reducible rfl) (by simp only [Act.put, List.setIfInBounds_toArray, List.set_cons_zero, List.set_cons_succ] <;> rfl) ?_
          refine Rest.take 47 135 rfl (by kernel_rfl) (by kernel_rfl) (by kernel_rfl) (fun _ _ _ h => h) (by rfl) (by rfl) (by intro z hz; have hc := hiI; go_simp <;> with_reducible rfl) (by simp only [Act.put, List.setIfInBounds_toArray, List.set_cons_zero, List.set_cons_succ] <;> rfl) ?_
          refine Rest.take 48 136 rfl (by kernel_rfl) (by kernel_rfl) (by kernel_rfl) (fun _ _ _ h => h) (by rfl) (by rfl) (by intro z hz; go_simp <;> with_reducible rfl) (by simp only [Act.put, List.setIfInBounds_toArray, List.set_cons_zero, List.set_cons_succ] <;> rfl) ?_
          refine Rest.takeMid 49 137 rfl (by kernel_rfl) (by kernel_rfl) (by kernel_rfl) 31 _ _ (off + i * 11 + 3) (bv [x0, x1, x2, x3, x4, x5, x6, x7]) _ (fun _ _ _ h => h) (by rfl) rfl rfl (fun z hz => kr z (hB.out.trans ((later HB hs hz).mono hwr))) Try.underlying31 rfl rfl (by rfl) (by simp only [Act.put, List.setIfInBounds_toArray, List.set_cons_zero, List.set_cons_succ] <;> rfl) ?_
          refine Rest.take 50 138 rfl (by kernel_rfl) (by kernel_rfl) (by kernel_rfl) (fun _ _ _ h => h) (by rfl) (by rfl) (by intro z hz; have hc := eq_block_refl x0 x1 x2 x3 x4 x5 x6 x7 z; go_simp <;> with_reducible rfl) (by simp only [Act.put, List.setIfInBounds_toArray, List.set_cons_zero, List.set_cons_succ] <;> rfl) ?_
          refine Rest.take 51 139 rfl (by kernel_rfl) (by kernel_rfl) (by kernel_rfl) (fun _ _ _ h => h) (by rfl) (by rfl) (by intro z hz; go_simp <;> with_reducible rfl) (by simp only [Act.put, List.setIfInBounds_toArray, List.set_cons_zero, List.set_cons_succ] <;> rfl) ?_
          refine Rest.done (by kernel_rfl) ?_
          go_wp2
          go_roundw
          case rel => exact ⟨i + 1, by go_num, by omega, Lib.hid (HR8.out.below HB.out HR8.out.hi_le), Lib.hid (hB.out.trans (HB.out.mono hwr))⟩
          case measure => simp [intOf]; omega
        · have hiI : ¬ (i : Int) < n := by omega
          have hR0 := hR.out
          rw [List.drop_eq_nil_of_le (by have := HN.out; omega)] at hR0
          have HR0 := Lib.hid hR0
          clear hR hR0
          go_wp2_with (first | (go_at_call 24; refine (left_any _ _ _ _ _ HR0.out).mono ?_; rintro e wz ⟨rfl, rfl⟩; rw [show (((some (encs [])).getD []).length : Int) = 0 from rfl]) | (go_at_call 26; refine (done_any _ _ _ _ _ HR0.out).mono ?_; rintro e wz ⟨rfl, rfl⟩; rw [show dE (some (encs [])) = 0 from rfl]))
          go_ret
          exact ⟨rfl, hB.out⟩

end Go.Proofs.Ytjpnhphnfbhpbaa
