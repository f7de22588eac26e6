/- Contracts of the methods of codec's reader. -/
import Derived.Test.YtjpnhphnfbhpbaaCodecC
import Derived.Lib.VarintBits
set_option linter.unusedVariables false
namespace Go.Proofs.Ytjpnhphnfbhpbaa
open Go Go.RowKit Go.Lib

/-- One byte is taken. -/
theorem take_one (lo hi q : Nat) (b : UInt8) (r : List UInt8) (w : World) (h : Rdr w 61 lo hi q (some (b :: r))) :
    Calls Try.prog 33 #[.pointer (some ⟨q, 0, none⟩), .int .u64 1] w fun e w' => ∃ b1 o1, e = .returned (.tuple #[.slice (some ⟨b1, o1, none⟩) 1 1, .int .i64 0]) ∧
      Rdr w' 61 lo hi q (some r) ∧ w'.cell? ⟨b1, o1, none⟩ = some (.int .u8 (b.toNat : Int)) ∧ w.grownBy w' (some q) := by
  refine (take_ok lo hi q (b :: r) 1 _ h (by omega) (by simp; omega)).mono ?_
  rintro e w1 ⟨a1, n1, rfl, hr1, hs1, hb1, hg1⟩
  have e1 : (b :: r).take (1 : Int).toNat = [b] := rfl
  have e2 : (b :: r).drop (1 : Int).toNat = r := rfl
  rw [e1] at hs1
  rw [e2] at hr1
  have hlen := hs1.len
  rw [bv_length] at hlen
  obtain rfl : n1 = 1 := by simpa using hlen.symm
  obtain ⟨b1, o1, rfl, hc⟩ := hs1.at (k := 0) (by simp [bv])
  exact ⟨b1, o1, rfl, hr1, by simpa [bv] using hc 0 (by simp [bv]), hg1⟩

set_option maxRecDepth 100000 in
set_option maxHeartbeats 800000 in
theorem uint_any (lo hi q : Nat) (s : Option (List UInt8)) (w : World) (h : Rdr w 61 lo hi q s) :
    Calls Try.prog 21 #[.pointer (some ⟨q, 0, none⟩)] w fun e w' => e = .returned (.tuple #[.int .u64 (uV s : Int), .int .i64 (uE s)]) ∧ Rdr w' 61 lo hi q (uS s) ∧ w.grownBy w' (some q) := by
  go_enter Try.func21, Try.ntmps21
  go_wp2_with fail
  go_loopw [4, 9] (fun nv iv wr => ∃ (i acc : Nat) (s' : Option (List UInt8)), nv = .int .u64 (acc : Int) ∧ iv = .int .i64 (i : Int) ∧ i ≤ 9 ∧ acc < 2 ^ (7 * i) ∧ Rdr wr 61 lo hi q s' ∧ Hid (s'.bind (rdFrom i acc) = rdU s) ∧ w.grownBy wr (some q)) (fun _ iv _ => 10 - (intOf iv).toNat)
  case atStart => exact ⟨0, 0, s, rfl, rfl, by omega, by decide, h, rfl, World.grownBy.refl _ _⟩
  case round =>
    obtain ⟨i, acc, s', rfl, rfl, hi9, hacc, hr, hp, hg⟩ := hrel
    by_cases hs : ∃ b r, s' = some (b :: r)
    · obtain ⟨b, r, rfl⟩ := hs
      have hb256 : (b.toNat : Int) < 256 := by have := b.toNat_lt; omega
      go_wp2_with (first | (go_at_call 33; refine (take_one lo hi q b r _ hr).mono ?_; rintro e w1 ⟨b1, o1, rfl, hr1, hc1, hg1⟩) | (go_at_call 34; refine (fail_any lo hi q _ _ hr1).mono ?_; rintro e w2 ⟨rfl, hr2, hg2⟩))
      · go_ret2
        have h9 : (i : Int) = 9 := by assumption
        obtain rfl : i = 9 := by omega
        have hbad : rdU s = none := by rw [← hp.out]; exact rd_over (by omega)
        obtain ⟨q1, q2, q3⟩ := rdU_bad hbad
        rw [q1, q2, q3]
        exact ⟨rfl, hr2, grownBy_trans hg (grownBy_trans hg1 hg2)⟩
      · go_ret2
        have hbad : rdU s = none := by rw [← hp.out]; exact rd_more (by omega) (by omega) (by omega)
        obtain ⟨q1, q2, q3⟩ := rdU_bad hbad
        rw [q1, q2, q3]
        exact ⟨rfl, hr2, grownBy_trans hg (grownBy_trans hg1 hg2)⟩
      · go_ret2
        obtain ⟨q1, q2, q3⟩ := rdU_ok (show rdU s = some (acc + b.toNat % 128 * 2 ^ (7 * i), r) by rw [← hp.out]; exact rd_done (by omega) (by omega) (by omega))
        rw [q1, q2, q3]
        have h9 : (i : Int) = 9 := by assumption
        obtain rfl : i = 9 := by omega
        exact ⟨ret2_int (or_step9 acc b.toNat hacc (by omega)) rfl, hr1, grownBy_trans hg hg1⟩
      · go_ret2
        have hbad : rdU s = none := by rw [← hp.out]; exact rd_more (by omega) (by omega) (by omega)
        obtain ⟨q1, q2, q3⟩ := rdU_bad hbad
        rw [q1, q2, q3]
        exact ⟨rfl, hr2, grownBy_trans hg (grownBy_trans hg1 hg2)⟩
      · go_ret2
        obtain ⟨q1, q2, q3⟩ := rdU_ok (show rdU s = some (acc + b.toNat % 128 * 2 ^ (7 * i), r) by rw [← hp.out]; exact rd_done (by omega) (by omega) (by omega))
        rw [q1, q2, q3]
        have hb0 : b.toNat = 0 := by omega
        have h0 := or_step i acc b.toNat hi9 hacc (by omega) (by omega)
        rw [hb0] at h0 ⊢
        exact ⟨ret2_int h0 rfl, hr1, grownBy_trans hg hg1⟩
      · go_ret2
        obtain ⟨q1, q2, q3⟩ := rdU_ok (show rdU s = some (acc + b.toNat % 128 * 2 ^ (7 * i), r) by rw [← hp.out]; exact rd_done (by omega) (by omega) (by omega))
        rw [q1, q2, q3, ← or_step i acc b.toNat hi9 hacc (by omega) (by omega)]
        exact ⟨rfl, hr1, grownBy_trans hg hg1⟩
      · go_roundw
        case rel => exact ⟨i + 1, acc + b.toNat % 128 * 2 ^ (7 * i), some r, by rw [or_step i acc b.toNat hi9 hacc (by omega) (by omega)], by go_num, by omega, (acc_lt i acc b.toNat hi9 hacc (by omega)).1, hr1, Lib.hid (by rw [← hp.out]; exact (rd_next (by omega) (by omega)).symm), grownBy_trans hg hg1⟩
        case measure => simp [intOf]; omega
    · have hbad : Hid (rdU s = none) := by
        rw [← hp.out]
        rcases s' with _ | (_ | ⟨b, r⟩)
        · rfl
        · rfl
        · exact absurd ⟨b, r, rfl⟩ hs
      have hshort : ∀ l, s' = some l → (l.length : Int) < 1 := by
        rintro l rfl
        rcases l with _ | ⟨b, r⟩
        · simp
        · exact absurd ⟨b, r, rfl⟩ hs
      have HS := Lib.hid hshort
      clear hshort hs
      go_wp2_with (first | (go_at_call 33; refine (take_bad lo hi q s' 1 _ hr (by omega) (by omega) HS.out).mono ?_; rintro e w1 ⟨rfl, hr1, hg1⟩))
      go_ret2
      obtain ⟨q1, q2, q3⟩ := rdU_bad hbad.out
      rw [q1, q2, q3]
      exact ⟨rfl, hr1, grownBy_trans hg hg1⟩

end Go.Proofs.Ytjpnhphnfbhpbaa
