/- The walk of CodecReads. -/
import Derived.Test.YtjpnhphnfbhpbaaAwake09
import Derived.Test.YtjpnhphnfbhpbaaRead09
import Derived.Test.YtjpnhphnfbhpbaaCodecL
import Derived.Test.YtjpnhphnfbhpbaaCodecF
import Derived.Test.YtjpnhphnfbhpbaaCodecGL
set_option linter.unusedVariables false
namespace Go.Proofs.Ytjpnhphnfbhpbaa
open Go Go.RowKit Go.Lib

theorem Two.toBelow {w w1 : World} {q q' B : Nat} (h : Two w w1 q q') (hq : B ≤ q) (hq' : B ≤ q') (hB : B ≤ w.heap.size) : Below B w w1 :=
  ⟨h.os, h.tape, h.output, h.size, fun k hk => h.block k (by omega) (by omega) (by omega)⟩

set_option maxRecDepth 100000 in
set_option maxHeartbeats 1600000 in
theorem reads_walk (a : Option Addr) (n c : Nat) (l : List UInt8) (ak : Option Addr) (nk ck : Nat) (ks : List UInt8) (w : World) (h : Sl w 1 a n c (bv l)) (hks : Sl w 1 ak nk ck (bv ks)) :
    Calls Try.prog 8 #[.slice a n c, .slice ak nk ck] w fun e w' => e = .returned (.bool true) ∧ Below w.heap.size w w' := by
  have hlen := h.len
  have hlenk := hks.len
  rw [bv_length, Nat.mul_one] at hlen hlenk
  have HL := Lib.hid hlen
  have HK := Lib.hid hlenk
  have Hh := Lib.hid h
  have Hk := Lib.hid hks
  have hckap := hks.cap
  clear hlen hlenk h hks
  go_enter Try.func8, Try.ntmps8
  go_wp2_with fail
  refine (awake09 _).mono ?_
  rintro e w0 ⟨rfl, hb0⟩
  by_cases hbig : n > 200
  · have hbig' : (200 : Int) < n := by omega
    go_wp2
    go_ret
    exact ⟨rfl, hb0⟩
  have hbig' : ¬ (200 : Int) < n := by omega
  by_cases hbigk : nk > 20
  · have hbigk' : (20 : Int) < nk := by omega
    go_wp2
    go_ret
    exact ⟨rfl, hb0⟩
  have hbigk' : ¬ (20 : Int) < nk := by omega
  have hl6 : l.length ≤ 1000000 := by have := HL.out; omega
  go_wp2_with fail
  refine (new_any a n c l _ (Hh.out.below hb0) hl6).mono ?_
  rintro e w1 ⟨q, rfl, R, hb1⟩
  go_wp2_with fail
  refine (refNew_any a n c l _ ((Hh.out.below hb0).below hb1) hl6).mono ?_
  rintro e w2 ⟨q', rfl, R', hb2⟩
  have s0 := hb0.size
  have s1 := hb1.size
  have s2 := hb2.size
  have lo1 := R.lo_le
  have lo2 := R'.lo_le
  have HR := Lib.hid (R.below hb2 (Nat.le_refl _))
  have HR' := Lib.hid R'
  have HB := Lib.hid ((hb0.trans (hb1.mono s0)).trans (hb2.mono (by omega)))
  obtain ⟨m1, hm1⟩ : ∃ m, m = w1.heap.size := ⟨_, rfl⟩
  obtain ⟨m0, hm0⟩ : ∃ m, m = w0.heap.size := ⟨_, rfl⟩
  obtain ⟨m2, hm2⟩ : ∃ m, m = w2.heap.size := ⟨_, rfl⟩
  rw [← hm0, ← hm1] at HR
  rw [← hm1, ← hm2] at HR'
  have hq1 : w.heap.size ≤ q := by omega
  have hq2 : w.heap.size ≤ q' := by omega
  clear R R' hb0 hb1 hb2 s0 s1 s2 lo1 lo2 hm0 hm1 hm2
  go_wp2_with fail
  go_loopw [7] (fun iv wr => ∃ (i : Nat) (s : Option (List UInt8)), iv = .int .i64 (i : Int) ∧ i ≤ nk ∧ Hid (Rdr wr 61 m0 m1 q s) ∧ Hid (Rdr wr 64 m1 m2 q' s) ∧ Hid (Below w.heap.size w wr)) (fun iv _ => nk - (intOf iv).toNat)
  case atStart => exact ⟨0, some l, rfl, by omega, HR, HR', HB⟩
  case round =>
    obtain ⟨i, s, rfl, hin, hR, hR', hB⟩ := hrel
    by_cases hi' : i < nk
    · have hiI : (i : Int) < nk := by omega
      have hi0 : (0 : Int) ≤ (i : Int) := by omega
      have hik : i < ks.length := by have := HK.out; omega
      obtain ⟨b, off, ha, hcell⟩ := Hk.out.at (k := i) (by rw [bv_length]; exact hik)
      subst ha
      have hc := hcell i (by rw [bv_length]; exact hik)
      have hbs := World.block_lt_of_cell? w _ hc
      have hcr := below_cell hB.out hbs hc
      simp only [bv, List.getElem_map] at hcr
      clear hc hcell
      have hszw := hB.out.size
      go_wp2_with (first
        | (go_at_call 29; refine (read09_any m0 m1 q m1 m2 q' s ks[i] _ hR.out hR'.out (Nat.le_refl _)).mono ?_; rintro e w5 ⟨rfl, r5, r5', t5⟩; have H5 := Lib.hid r5; have H5' := Lib.hid r5'; have HT := Lib.hid t5; clear r5 r5' t5)
        | (go_at_call 24; refine (left_any _ _ _ _ _ H5.out).mono ?_; rintro e wz ⟨rfl, rfl⟩)
        | (go_at_call 30; refine (refLeft_any _ _ _ _ _ H5'.out).mono ?_; rintro e wz ⟨rfl, rfl⟩)
        | (go_at_call 26; refine (done_any _ _ _ _ _ H5.out).mono ?_; rintro e wz ⟨rfl, rfl⟩)
        | (go_at_call 31; refine (refDone_any _ _ _ _ _ H5'.out).mono ?_; rintro e wz ⟨rfl, rfl⟩))
      go_roundw
      case rel => exact ⟨i + 1, _, by go_num, by omega, H5, H5', Lib.hid (hB.out.trans (HT.out.toBelow hq1 hq2 hszw))⟩
      case measure => simp [intOf]; omega
    · have hiI : ¬ (i : Int) < nk := by omega
      go_wp2_with (first
        | (go_at_call 24; refine (left_any _ _ _ _ _ hR.out).mono ?_; rintro e wz ⟨rfl, rfl⟩)
        | (go_at_call 30; refine (refLeft_any _ _ _ _ _ hR'.out).mono ?_; rintro e wz ⟨rfl, rfl⟩)
        | (go_at_call 26; refine (done_any _ _ _ _ _ hR.out).mono ?_; rintro e wz ⟨rfl, rfl⟩)
        | (go_at_call 31; refine (refDone_any _ _ _ _ _ hR'.out).mono ?_; rintro e wz ⟨rfl, rfl⟩))
      go_ret
      exact ⟨rfl, hB.out⟩

end Go.Proofs.Ytjpnhphnfbhpbaa
