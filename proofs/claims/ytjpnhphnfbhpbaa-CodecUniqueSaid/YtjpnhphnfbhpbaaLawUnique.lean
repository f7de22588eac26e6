/- The walk of CodecUnique. -/
import Derived.Test.YtjpnhphnfbhpbaaAwake09
import Derived.Test.YtjpnhphnfbhpbaaCodecL
import Derived.Test.YtjpnhphnfbhpbaaCodecE
import Derived.Test.YtjpnhphnfbhpbaaCodecEI
import Derived.Test.YtjpnhphnfbhpbaaCodecB
import Derived.Test.YtjpnhphnfbhpbaaCodecI
import Derived.Test.YtjpnhphnfbhpbaaPlainRound
import Derived.Test.YtjpnhphnfbhpbaaSteps
set_option linter.unusedVariables false
namespace Go.Proofs.Ytjpnhphnfbhpbaa
open Go Go.RowKit Go.Lib

/-- A slice cut at its end keeps its address. -/
theorem Sl.front {w : World} {es n c : Nat} {a : Option Addr} {l : List Value} (h : Sl w es a n c l) (k : Nat) (hk : k ≤ n) : Sl w es a k c (l.take (k * es)) :=
  ⟨by rw [List.length_take, h.len, Nat.min_eq_left (Nat.mul_le_mul_right _ hk)], Nat.le_trans hk h.cap, h.max, fun ha => ⟨by have := (h.nil ha).1; omega, (h.nil ha).2⟩,
    fun ad had j u hu => h.cell ad had j u (by
      rw [List.getElem?_take] at hu
      split at hu
      · exact hu
      · cases hu), fun u hu => h.one u (List.mem_of_mem_take hu)⟩

theorem Below.drewN' {B : Nat} {a w : World} (h : Below B a w) (k : Nat) : Below B a (w.drewN k) := ⟨h.os, h.tape, h.output, h.size, h.block⟩

set_option maxRecDepth 100000 in
set_option maxHeartbeats 8000000 in
theorem unique_walk (a : Option Addr) (n c : Nat) (l : List UInt8) (w : World) (h : Sl w 1 a n c (bv l)) :
    Calls Try.prog 5 #[.slice a n c] w fun e w' => e = .returned (.bool true) ∧ Below w.heap.size w w' := by
  have hlen := h.len
  rw [bv_length, Nat.mul_one] at hlen
  have HL := Lib.hid hlen
  have hcap := h.cap
  clear hlen
  have Hh := Lib.hid h
  clear h
  have hnn : 0 ≤ (n : Int) := by omega
  have hnn63 := Hh.out.max
  go_enter Try.func5, Try.ntmps5
  go_wp2_with fail
  refine (awake09 _).mono ?_
  rintro e w0 ⟨rfl, hb0⟩
  by_cases hbig : l.length > 60
  · have hbig' : (60 : Int) < n := by have := HL.out; omega
    go_wp2
    go_ret
    exact ⟨rfl, hb0⟩
  have hbig' : ¬ (60 : Int) < n := by have := HL.out; omega
  have hl6 : l.length ≤ 1000000 := by omega
  go_wp2_with fail
  refine (new_any a n c l _ (Hh.out.below hb0) hl6).mono ?_
  rintro e w1 ⟨q1, rfl, R1, hb1⟩
  go_wp2_with fail
  refine (new_any a n c l _ ((Hh.out.below hb0).below hb1) hl6).mono ?_
  rintro e w2 ⟨q2, rfl, R2, hb2⟩
  go_wp2_with fail
  refine (new_any a n c l _ (((Hh.out.below hb0).below hb1).below hb2) hl6).mono ?_
  rintro e w3 ⟨q3, rfl, R3, hb3⟩
  have s1 := hb1.size
  have s2 := hb2.size
  have s3 := hb3.size
  have s0 := hb0.size
  have R1 := (R1.below hb2 (Nat.le_refl _)).below hb3 s2
  have R2 := R2.below hb3 (Nat.le_refl _)
  have hB3 : Below w.heap.size w w3 := ((hb0.trans (hb1.mono s0)).trans (hb2.mono (by omega))).trans (hb3.mono (by omega))
  clear hb0 hb1 hb2 hb3
  go_wp2_with fail
  refine (uint_any _ _ _ _ _ R1).mono ?_
  rintro e w4 ⟨rfl, R1, g4⟩
  have lt1 := R1.lt_hi
  have le1 := R1.lo_le
  have R2 := R2.other g4 (.inl lt1)
  have R3 := R3.other g4 (.inl (by omega))
  have hB4 := hB3.trans (Below.of_grown g4 (by omega) (by omega))
  clear g4 hB3
  go_wp2_with fail
  refine (int_any _ _ _ _ _ R2).mono ?_
  rintro e w5 ⟨rfl, R2, g5⟩
  have lt2 := R2.lt_hi
  have le2 := R2.lo_le
  have R1 := R1.other g5 (.inr le2)
  have R3 := R3.other g5 (.inl lt2)
  have hB5 := hB4.trans (Below.of_grown g5 (by omega) hB4.size)
  clear g5 hB4
  go_wp2_with fail
  refine (bytes_any _ _ _ _ _ R3).mono ?_
  rintro e w6 ⟨ax, nx, cx, rfl, SX, ins, R3, g6⟩
  have lt3 := R3.lt_hi
  have le3 := R3.lo_le
  have R1 := R1.other g6 (.inr (by omega))
  have R2 := R2.other g6 (.inr le3)
  have hB6 := hB5.trans (Below.of_grown g6 (by omega) hB5.size)
  have h16 := R1.hi_le
  have h26 := R2.hi_le
  have h36 := R3.hi_le
  clear g6 hB5 ins
  have R1 := Lib.hid R1
  have R2 := Lib.hid R2
  have R3 := Lib.hid R3
  have SX := Lib.hid SX
  rcases hu : rdU (some l) with _ | ⟨v, r⟩
  · obtain ⟨e1, e2, e3⟩ := rdU_bad hu
    obtain ⟨b1, b2, b3⟩ := b_bad (s := some l) (by rw [bR, hu])
    rw [e2, e1, b2]
    clear e1 e3 b1 b3
    go_wp2
    go_quiet (fail)
    go_wp2
    go_quiet (fail)
    go_wp2
    go_ret
    exact ⟨rfl, hB6.trans (Below.drewN' (Below.drewN' (Below.refl _ _) _) _)⟩
  · have hun := rdU_unique hu
    have hv := rdU_lt hu
    obtain ⟨e1, e2, e3⟩ := rdU_ok hu
    rw [e2, e1]
    rw [e3] at R1 R2
    clear e1 e2 e3
    have HU := Lib.hid hun
    have hz : -9223372036854775808 ≤ unzig v ∧ unzig v ≤ 9223372036854775807 := by unfold unzig; split <;> omega
    have hz0 := hz.1
    have hz1 := hz.2
    clear hz
    have hi1 := h16
    have hb1s := hB6.size
    have hlr : l.length = (uvarint v).length + r.length := by rw [← List.length_append]; exact congrArg List.length hun
    have hLR := Lib.hid hlr
    have hun' : (uvarint v).length ≤ n := by have := HL.out; omega
    have hcut := Hh.out.front (uvarint v).length hun'
    have hslc : ((uvarint v).length : Int) ≤ (c : Int) := by omega
    have hsl0 : (0 : Int) ≤ ((uvarint v).length : Int) := by omega
    rw [Nat.mul_one, bv_take, hun, List.take_left] at hcut
    have HC := Lib.hid hcut
    have hstr : ∀ x, Below w6.heap.size w6 x → (convert 25 9 (.slice a (uvarint v).length c)).run Try.prog x = .ok (.string (strB (uvarint v))) x := fun x hx =>
      Sl.run_str (P := Try.prog) (HC.out.below (hB6.trans (hx.mono hb1s))) 25 5 9 Try.underlying25 Try.underlying5 Try.underlying9
    have hsub : IntKind.i64.wrap ((n : Int) - (r.length : Int)) = ((uvarint v).length : Int) := by
      have := HL.out
      have hm : c ≤ maxLen := hnn63
      unfold maxLen at hm
      rw [IntWalk.i64_left, wrap64]
      omega
    clear hcut hlr hun
    go_wp2
    have HB := Lib.hid (show Below w6.heap.size w6 w6.drew from (Below.refl _ _).drew)
    have hs : w6.heap.size ≤ w6.drew.heap.size := Nat.le_refl _
    refine Rest.begin 34 (by kernel_rfl) (by kernel_rfl) ?_
    refine Rest.take 0 59 rfl (by kernel_rfl) (by kernel_rfl) (by kernel_rfl) (fun _ _ _ h => h) (by rfl) (by rfl) (by intro x hx; go_simp <;> with_reducible rfl) (by simp only [Act.put, List.setIfInBounds_toArray, List.set_cons_zero, List.set_cons_succ] <;> rfl) ?_
    refine Rest.take 1 60 rfl (by kernel_rfl) (by kernel_rfl) (by kernel_rfl) (fun _ _ _ h => h) (by rfl) (by rfl) (by intro x hx; go_simp <;> with_reducible rfl) (by simp only [Act.put, List.setIfInBounds_toArray, List.set_cons_zero, List.set_cons_succ] <;> rfl) ?_
    refine Rest.take 2 61 rfl (by kernel_rfl) (by kernel_rfl) (by kernel_rfl) (fun _ _ _ h => h) (by rfl) (by rfl) (by intro x hx; go_simp <;> with_reducible rfl) (by simp only [Act.put, List.setIfInBounds_toArray, List.set_cons_zero, List.set_cons_succ] <;> rfl) ?_
    refine Rest.take 3 62 rfl (by kernel_rfl) (by kernel_rfl) (by kernel_rfl) (fun _ _ _ h => h) (by rfl) (by rfl) (by intro x hx; go_simp <;> with_reducible rfl) (by simp only [Act.put, List.setIfInBounds_toArray, List.set_cons_zero, List.set_cons_succ] <;> rfl) ?_
    refine Rest.take 6 65 rfl (by kernel_rfl) (by kernel_rfl) (by kernel_rfl) (fun _ _ _ h => h) (by rfl) (by rfl) (by intro x hx; go_simp <;> with_reducible rfl) (by simp only [Act.put, List.setIfInBounds_toArray, List.set_cons_zero, List.set_cons_succ] <;> rfl) ?_
    refine Rest.take 7 66 rfl (by kernel_rfl) (by kernel_rfl) (by kernel_rfl) (fun _ _ _ h => h) (by rfl) (by rfl) (by intro x hx; go_simp <;> with_reducible rfl) (by simp only [Act.put, List.setIfInBounds_toArray, List.set_cons_zero, List.set_cons_succ] <;> rfl) ?_
    refine Rest.take 8 67 rfl (by kernel_rfl) (by kernel_rfl) (by kernel_rfl) (fun _ _ _ h => h) (by rfl) (by rfl) (by intro x hx; go_simp <;> with_reducible rfl) (by simp only [Act.put, List.setIfInBounds_toArray, List.set_cons_zero, List.set_cons_succ] <;> rfl) ?_
    refine Rest.take 9 68 rfl (by kernel_rfl) (by kernel_rfl) (by kernel_rfl) (fun _ _ _ h => h) (by rfl) (by rfl) (by intro x hx; go_simp <;> with_reducible rfl) (by simp only [Act.put, List.setIfInBounds_toArray, List.set_cons_zero, List.set_cons_succ] <;> rfl) ?_
    refine Rest.step 4 rfl (by kernel_rfl) (by rfl) (fun K hK => ?_)
    go_simp
    go_at_call 11
    refine (appendUint_any none 0 0 [] (v : Int) _ (Sl.nilv _ _) (by decide) (by omega) (by omega)).mono ?_
    rintro e wn ⟨ar, nr, cr, rfl, ho, hb⟩
    rw [List.nil_append] at ho
    rw [Int.toNat_natCast] at ho
    refine hK.out _ _ hb ?_
    clear hK K
    have HB := Lib.hid (HB.out.trans (hb.mono hs))
    have hs := Nat.le_trans hs hb.size
    refine Rest.take 5 64 rfl (by kernel_rfl) (by kernel_rfl) (by kernel_rfl) (fun _ _ _ h => h) (by rfl) (by rfl) (by intro x hx; have hc := Sl.run_str (P := Try.prog) ((Sl.of_owns ho (bv_one _)).2.below hx) 25 5 9 Try.underlying25 Try.underlying5 Try.underlying9; go_simp <;> with_reducible rfl) (by simp only [Act.put, List.setIfInBounds_toArray, List.set_cons_zero, List.set_cons_succ] <;> rfl) ?_
    refine Rest.step 10 rfl (by kernel_rfl) (by rfl) (fun K hK => ?_)
    go_simp
    go_at_call 24
    refine (left_any _ _ _ _ _ (R1.out.below (HB.out) h16)).mono ?_
    rintro e wz ⟨rfl, rfl⟩
    refine hK.out _ _ (Below.refl _ _) ?_
    clear hK K
    refine Rest.take 11 70 rfl (by kernel_rfl) (by kernel_rfl) (by kernel_rfl) (fun _ _ _ h => h) (by rfl) (by rfl) (by intro x hx; have hc := hsub; go_simp <;> with_reducible rfl) (by simp only [Act.put, List.setIfInBounds_toArray, List.set_cons_zero, List.set_cons_succ] <;> rfl) ?_
    refine Rest.take 12 71 rfl (by kernel_rfl) (by kernel_rfl) (by kernel_rfl) (fun _ _ _ h => h) (by rfl) (by rfl) (by intro x hx; have hc := hslc; go_simp <;> with_reducible rfl) (by simp only [Act.put, List.setIfInBounds_toArray, List.set_cons_zero, List.set_cons_succ] <;> rfl) ?_
    refine Rest.take 13 72 rfl (by kernel_rfl) (by kernel_rfl) (by kernel_rfl) (fun _ _ _ h => h) (by rfl) (by rfl) (by intro x hx; have hc := hstr x (later HB hs hx); go_simp <;> with_reducible rfl) (by simp only [Act.put, List.setIfInBounds_toArray, List.set_cons_zero, List.set_cons_succ] <;> rfl) ?_
    refine Rest.take 14 73 rfl (by kernel_rfl) (by kernel_rfl) (by kernel_rfl) (fun _ _ _ h => h) (by rfl) (by rfl) (by intro x hx; go_simp <;> with_reducible rfl) (by simp only [Act.put, List.setIfInBounds_toArray, List.set_cons_zero, List.set_cons_succ] <;> rfl) ?_
    refine Rest.take 15 74 rfl (by kernel_rfl) (by kernel_rfl) (by kernel_rfl) (fun _ _ _ h => h) (by rfl) (by rfl) (by intro x hx; go_simp <;> with_reducible rfl) (by simp only [Act.put, List.setIfInBounds_toArray, List.set_cons_zero, List.set_cons_succ] <;> rfl) ?_
    refine Rest.take 16 75 rfl (by kernel_rfl) (by kernel_rfl) (by kernel_rfl) (fun _ _ _ h => h) (by rfl) (by rfl) (by intro x hx; go_simp <;> with_reducible rfl) (by simp only [Act.put, List.setIfInBounds_toArray, List.set_cons_zero, List.set_cons_succ] <;> rfl) ?_
    refine Rest.take 17 76 rfl (by kernel_rfl) (by kernel_rfl) (by kernel_rfl) (fun _ _ _ h => h) (by rfl) (by rfl) (by intro x hx; go_simp <;> with_reducible rfl) (by simp only [Act.put, List.setIfInBounds_toArray, List.set_cons_zero, List.set_cons_succ] <;> rfl) ?_
    refine Rest.take 18 77 rfl (by kernel_rfl) (by kernel_rfl) (by kernel_rfl) (fun _ _ _ h => h) (by rfl) (by rfl) (by intro x hx; go_simp <;> with_reducible rfl) (by simp only [Act.put, List.setIfInBounds_toArray, List.set_cons_zero, List.set_cons_succ] <;> rfl) ?_
    refine Rest.take 19 78 rfl (by kernel_rfl) (by kernel_rfl) (by kernel_rfl) (fun _ _ _ h => h) (by rfl) (by rfl) (by intro x hx; go_simp <;> with_reducible rfl) (by simp only [Act.put, List.setIfInBounds_toArray, List.set_cons_zero, List.set_cons_succ] <;> rfl) ?_
    refine Rest.take 20 79 rfl (by kernel_rfl) (by kernel_rfl) (by kernel_rfl) (fun _ _ _ h => h) (by rfl) (by rfl) (by intro x hx; go_simp <;> with_reducible rfl) (by simp only [Act.put, List.setIfInBounds_toArray, List.set_cons_zero, List.set_cons_succ] <;> rfl) ?_
    refine Rest.take 23 82 rfl (by kernel_rfl) (by kernel_rfl) (by kernel_rfl) (fun _ _ _ h => h) (by rfl) (by rfl) (by intro x hx; go_simp <;> with_reducible rfl) (by simp only [Act.put, List.setIfInBounds_toArray, List.set_cons_zero, List.set_cons_succ] <;> rfl) ?_
    refine Rest.take 24 83 rfl (by kernel_rfl) (by kernel_rfl) (by kernel_rfl) (fun _ _ _ h => h) (by rfl) (by rfl) (by intro x hx; go_simp <;> with_reducible rfl) (by simp only [Act.put, List.setIfInBounds_toArray, List.set_cons_zero, List.set_cons_succ] <;> rfl) ?_
    refine Rest.take 25 84 rfl (by kernel_rfl) (by kernel_rfl) (by kernel_rfl) (fun _ _ _ h => h) (by rfl) (by rfl) (by intro x hx; go_simp <;> with_reducible rfl) (by simp only [Act.put, List.setIfInBounds_toArray, List.set_cons_zero, List.set_cons_succ] <;> rfl) ?_
    refine Rest.take 26 85 rfl (by kernel_rfl) (by kernel_rfl) (by kernel_rfl) (fun _ _ _ h => h) (by rfl) (by rfl) (by intro x hx; go_simp <;> with_reducible rfl) (by simp only [Act.put, List.setIfInBounds_toArray, List.set_cons_zero, List.set_cons_succ] <;> rfl) ?_
    refine Rest.step 21 rfl (by kernel_rfl) (by rfl) (fun K hK => ?_)
    go_simp
    go_at_call 12
    refine (appendInt_any none 0 0 [] (unzig v) _ (Sl.nilv _ _) (by decide) hz0 hz1).mono ?_
    clear ho
    rintro e wn ⟨ar, nr, cr, rfl, ho, hb⟩
    rw [List.nil_append] at ho
    rw [zigzag_unzig] at ho
    refine hK.out _ _ hb ?_
    clear hK K
    have HB := Lib.hid (HB.out.trans (hb.mono hs))
    have hs := Nat.le_trans hs hb.size
    refine Rest.take 22 81 rfl (by kernel_rfl) (by kernel_rfl) (by kernel_rfl) (fun _ _ _ h => h) (by rfl) (by rfl) (by intro x hx; have hc := Sl.run_str (P := Try.prog) ((Sl.of_owns ho (bv_one _)).2.below hx) 25 5 9 Try.underlying25 Try.underlying5 Try.underlying9; go_simp <;> with_reducible rfl) (by simp only [Act.put, List.setIfInBounds_toArray, List.set_cons_zero, List.set_cons_succ] <;> rfl) ?_
    refine Rest.step 27 rfl (by kernel_rfl) (by rfl) (fun K hK => ?_)
    go_simp
    go_at_call 24
    refine (left_any _ _ _ _ _ (R2.out.below (HB.out) h26)).mono ?_
    rintro e wz ⟨rfl, rfl⟩
    refine hK.out _ _ (Below.refl _ _) ?_
    clear hK K
    refine Rest.take 28 87 rfl (by kernel_rfl) (by kernel_rfl) (by kernel_rfl) (fun _ _ _ h => h) (by rfl) (by rfl) (by intro x hx; have hc := hsub; go_simp <;> with_reducible rfl) (by simp only [Act.put, List.setIfInBounds_toArray, List.set_cons_zero, List.set_cons_succ] <;> rfl) ?_
    refine Rest.take 29 88 rfl (by kernel_rfl) (by kernel_rfl) (by kernel_rfl) (fun _ _ _ h => h) (by rfl) (by rfl) (by intro x hx; have hc := hslc; go_simp <;> with_reducible rfl) (by simp only [Act.put, List.setIfInBounds_toArray, List.set_cons_zero, List.set_cons_succ] <;> rfl) ?_
    refine Rest.take 30 89 rfl (by kernel_rfl) (by kernel_rfl) (by kernel_rfl) (fun _ _ _ h => h) (by rfl) (by rfl) (by intro x hx; have hc := hstr x (later HB hs hx); go_simp <;> with_reducible rfl) (by simp only [Act.put, List.setIfInBounds_toArray, List.set_cons_zero, List.set_cons_succ] <;> rfl) ?_
    refine Rest.take 31 90 rfl (by kernel_rfl) (by kernel_rfl) (by kernel_rfl) (fun _ _ _ h => h) (by rfl) (by rfl) (by intro x hx; go_simp <;> with_reducible rfl) (by simp only [Act.put, List.setIfInBounds_toArray, List.set_cons_zero, List.set_cons_succ] <;> rfl) ?_
    refine Rest.take 32 91 rfl (by kernel_rfl) (by kernel_rfl) (by kernel_rfl) (fun _ _ _ h => h) (by rfl) (by rfl) (by intro x hx; go_simp <;> with_reducible rfl) (by simp only [Act.put, List.setIfInBounds_toArray, List.set_cons_zero, List.set_cons_succ] <;> rfl) ?_
    refine Rest.take 33 92 rfl (by kernel_rfl) (by kernel_rfl) (by kernel_rfl) (fun _ _ _ h => h) (by rfl) (by rfl) (by intro x hx; go_simp <;> with_reducible rfl) (by simp only [Act.put, List.setIfInBounds_toArray, List.set_cons_zero, List.set_cons_succ] <;> rfl) ?_
    refine Rest.done (by kernel_rfl) ?_
    clear ho hsub hstr hslc hsl0
    have hB7 := hB6.trans (HB.out.mono hb1s)
    have R3 := Lib.hid (R3.out.below HB.out h36)
    have SX := Lib.hid (SX.out.below HB.out)
    clear HC hb hB6
    obtain ⟨wr, hwn⟩ : ∃ wr, wr = wn := ⟨_, rfl⟩
    subst hwn
    have h37 : w3.heap.size ≤ wr.heap.size := by omega
    clear R1 R2 HB hs h16 h26 h36
    rcases hbr : bR (some l) with _ | ⟨x, r2⟩
    · obtain ⟨b1, b2, b3⟩ := b_bad hbr
      rw [b2]
      clear b1 b2 b3
      go_wp2
      go_quiet (fail)
      go_wp2
      go_ret
      exact ⟨rfl, hB7.trans (Below.drewN' (Below.refl _ _) _)⟩
    · have hun := bR_unique hbr
      obtain ⟨b1, b2, b3⟩ := b_ok hbr
      rw [b2]
      rw [b1] at SX
      rw [b3] at R3
      clear b1 b2 b3
      have HU2 := Lib.hid hun
      have hlr : l.length = (uvarint x.length ++ x).length + r2.length := by rw [← List.length_append, List.append_assoc]; exact congrArg List.length hun
      have hxl : x.length ≤ 1000000 := by rw [List.length_append] at hlr; omega
      have hun' : (uvarint x.length ++ x).length ≤ n := by have := HL.out; omega
      have hcut := Hh.out.front (uvarint x.length ++ x).length hun'
      obtain ⟨m, hm⟩ : ∃ m, m = (uvarint x.length ++ x).length := ⟨_, rfl⟩
      rw [Nat.mul_one, bv_take, hun, ← List.append_assoc, List.take_left] at hcut
      rw [← hm] at hun' hlr hcut
      clear hm
      have hslc : (m : Int) ≤ (c : Int) := by omega
      have hsl0 : (0 : Int) ≤ (m : Int) := by omega
      have hsubx : IntKind.i64.wrap ((n : Int) - (r2.length : Int)) = (m : Int) := by
        have := HL.out
        have hm : c ≤ maxLen := hnn63
        unfold maxLen at hm
        rw [IntWalk.i64_left, wrap64]
        omega
      have hwr := hB7.size
      have HC := Lib.hid hcut
      have hstrx : ∀ y, Below wr.heap.size wr y → (convert 25 9 (.slice a m c)).run Try.prog y = .ok (.string (strB (uvarint x.length ++ x))) y := fun y hy =>
        Sl.run_str (P := Try.prog) (HC.out.below (hB7.trans (hy.mono hwr))) 25 5 9 Try.underlying25 Try.underlying5 Try.underlying9
      clear hcut hlr hun
      go_wp2
      have HB := Lib.hid (show Below wr.heap.size wr wr.drew from (Below.refl _ _).drew)
      have hs : wr.heap.size ≤ wr.drew.heap.size := Nat.le_refl _
      refine Rest.begin 17 (by kernel_rfl) (by kernel_rfl) ?_
      refine Rest.take 0 93 rfl (by kernel_rfl) (by kernel_rfl) (by kernel_rfl) (fun _ _ _ h => h) (by rfl) (by rfl) (by intro y hx; go_simp <;> with_reducible rfl) (by simp only [Act.put, List.setIfInBounds_toArray, List.set_cons_zero, List.set_cons_succ] <;> rfl) ?_
      refine Rest.take 1 94 rfl (by kernel_rfl) (by kernel_rfl) (by kernel_rfl) (fun _ _ _ h => h) (by rfl) (by rfl) (by intro y hx; go_simp <;> with_reducible rfl) (by simp only [Act.put, List.setIfInBounds_toArray, List.set_cons_zero, List.set_cons_succ] <;> rfl) ?_
      refine Rest.take 2 95 rfl (by kernel_rfl) (by kernel_rfl) (by kernel_rfl) (fun _ _ _ h => h) (by rfl) (by rfl) (by intro y hx; go_simp <;> with_reducible rfl) (by simp only [Act.put, List.setIfInBounds_toArray, List.set_cons_zero, List.set_cons_succ] <;> rfl) ?_
      refine Rest.take 3 96 rfl (by kernel_rfl) (by kernel_rfl) (by kernel_rfl) (fun _ _ _ h => h) (by rfl) (by rfl) (by intro y hx; go_simp <;> with_reducible rfl) (by simp only [Act.put, List.setIfInBounds_toArray, List.set_cons_zero, List.set_cons_succ] <;> rfl) ?_
      refine Rest.take 6 99 rfl (by kernel_rfl) (by kernel_rfl) (by kernel_rfl) (fun _ _ _ h => h) (by rfl) (by rfl) (by intro y hx; go_simp <;> with_reducible rfl) (by simp only [Act.put, List.setIfInBounds_toArray, List.set_cons_zero, List.set_cons_succ] <;> rfl) ?_
      refine Rest.take 7 100 rfl (by kernel_rfl) (by kernel_rfl) (by kernel_rfl) (fun _ _ _ h => h) (by rfl) (by rfl) (by intro y hx; go_simp <;> with_reducible rfl) (by simp only [Act.put, List.setIfInBounds_toArray, List.set_cons_zero, List.set_cons_succ] <;> rfl) ?_
      refine Rest.take 8 101 rfl (by kernel_rfl) (by kernel_rfl) (by kernel_rfl) (fun _ _ _ h => h) (by rfl) (by rfl) (by intro y hx; go_simp <;> with_reducible rfl) (by simp only [Act.put, List.setIfInBounds_toArray, List.set_cons_zero, List.set_cons_succ] <;> rfl) ?_
      refine Rest.take 9 102 rfl (by kernel_rfl) (by kernel_rfl) (by kernel_rfl) (fun _ _ _ h => h) (by rfl) (by rfl) (by intro y hx; go_simp <;> with_reducible rfl) (by simp only [Act.put, List.setIfInBounds_toArray, List.set_cons_zero, List.set_cons_succ] <;> rfl) ?_
      refine Rest.step 4 rfl (by kernel_rfl) (by rfl) (fun K hK => ?_)
      go_simp
      go_at_call 16
      refine (appendBytes_any none 0 0 [] ax nx cx x _ (Sl.nilv _ _) (by decide) (SX.out.below HB.out) hxl).mono ?_
      rintro e wn ⟨ar, nr, cr, rfl, ho, hb⟩
      rw [List.nil_append] at ho
      refine hK.out _ _ hb ?_
      clear hK K
      have HB := Lib.hid (HB.out.trans (hb.mono hs))
      have hs := Nat.le_trans hs hb.size
      refine Rest.take 5 98 rfl (by kernel_rfl) (by kernel_rfl) (by kernel_rfl) (fun _ _ _ h => h) (by rfl) (by rfl) (by intro y hx; have hc := Sl.run_str (P := Try.prog) ((Sl.of_owns ho (bv_one _)).2.below hx) 25 5 9 Try.underlying25 Try.underlying5 Try.underlying9; go_simp <;> with_reducible rfl) (by simp only [Act.put, List.setIfInBounds_toArray, List.set_cons_zero, List.set_cons_succ] <;> rfl) ?_
      refine Rest.step 10 rfl (by kernel_rfl) (by rfl) (fun K hK => ?_)
      go_simp
      go_at_call 24
      refine (left_any _ _ _ _ _ (R3.out.below (HB.out) h37)).mono ?_
      rintro e wz ⟨rfl, rfl⟩
      refine hK.out _ _ (Below.refl _ _) ?_
      clear hK K
      refine Rest.take 11 104 rfl (by kernel_rfl) (by kernel_rfl) (by kernel_rfl) (fun _ _ _ h => h) (by rfl) (by rfl) (by intro y hx; have hc := hsubx; go_simp <;> with_reducible rfl) (by simp only [Act.put, List.setIfInBounds_toArray, List.set_cons_zero, List.set_cons_succ] <;> rfl) ?_
      refine Rest.take 12 105 rfl (by kernel_rfl) (by kernel_rfl) (by kernel_rfl) (fun _ _ _ h => h) (by rfl) (by rfl) (by intro y hx; have hc := hslc; go_simp <;> with_reducible rfl) (by simp only [Act.put, List.setIfInBounds_toArray, List.set_cons_zero, List.set_cons_succ] <;> rfl) ?_
      refine Rest.take 13 106 rfl (by kernel_rfl) (by kernel_rfl) (by kernel_rfl) (fun _ _ _ h => h) (by rfl) (by rfl) (by intro y hx; have hc := hstrx y (later HB hs hx); go_simp <;> with_reducible rfl) (by simp only [Act.put, List.setIfInBounds_toArray, List.set_cons_zero, List.set_cons_succ] <;> rfl) ?_
      refine Rest.take 14 107 rfl (by kernel_rfl) (by kernel_rfl) (by kernel_rfl) (fun _ _ _ h => h) (by rfl) (by rfl) (by intro y hx; go_simp <;> with_reducible rfl) (by simp only [Act.put, List.setIfInBounds_toArray, List.set_cons_zero, List.set_cons_succ] <;> rfl) ?_
      refine Rest.take 15 108 rfl (by kernel_rfl) (by kernel_rfl) (by kernel_rfl) (fun _ _ _ h => h) (by rfl) (by rfl) (by intro y hx; go_simp <;> with_reducible rfl) (by simp only [Act.put, List.setIfInBounds_toArray, List.set_cons_zero, List.set_cons_succ] <;> rfl) ?_
      refine Rest.take 16 2 rfl (by kernel_rfl) (by kernel_rfl) (by kernel_rfl) (fun _ _ _ h => h) (by rfl) (by rfl) (by intro y hx; go_simp <;> with_reducible rfl) (by simp only [Act.put, List.setIfInBounds_toArray, List.set_cons_zero, List.set_cons_succ] <;> rfl) ?_
      refine Rest.done (by kernel_rfl) ?_
      go_wp2
      go_ret
      exact ⟨rfl, hB7.trans (HB.out.mono hwr)⟩

end Go.Proofs.Ytjpnhphnfbhpbaa
