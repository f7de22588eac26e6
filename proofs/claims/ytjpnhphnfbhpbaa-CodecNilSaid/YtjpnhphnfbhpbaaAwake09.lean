/- The examples that every statement on codec checks first hold. -/
import Derived.Test.YtjpnhphnfbhpbaaCodecB
import Derived.Test.YtjpnhphnfbhpbaaCodecI
import Derived.Test.YtjpnhphnfbhpbaaCodecD
set_option linter.unusedVariables false
namespace Go.Proofs.Ytjpnhphnfbhpbaa
open Go Go.RowKit Go.Lib

set_option maxRecDepth 100000 in
set_option maxHeartbeats 800000 in
theorem awake09 (w : World) : Calls Try.prog 10 #[] w fun e w' => e = .returned (.bool true) ∧ Below w.heap.size w w' := by
  have hr1 : Hid (uE (some [128, 0]) = 5) := Lib.hid (by decide)
  have hr3 : Hid (([] ++ uvarint (300 : Int).toNat) = ([172, 2] : List UInt8)) := Lib.hid (by rw [show (300 : Int).toNat = 300 from rfl, uvarint_big (by decide), uvarint_small (by decide)]; decide)
  have hr4 : Hid (([172, 2] ++ uvarint (zigzag (-1))) = ([172, 2, 1] : List UInt8)) := Lib.hid (by rw [show zigzag (-1) = 1 from rfl, uvarint_small (by decide)]; decide)
  have hr5 : Hid (([172, 2, 1] ++ (uvarint ([7, 8] : List UInt8).length ++ [7, 8])) = ([172, 2, 1, 2, 7, 8] : List UInt8)) := Lib.hid (by rw [show ([7, 8] : List UInt8).length = 2 from rfl, uvarint_small (by decide)]; decide)
  go_enter Try.func10, Try.ntmps10
  go_wp2_with fail
  refine (new_any _ _ _ [128, 0] _ (Sl.lit w (bv [128, 0]).toArray 5 2 rfl (by decide) (bv_one _)) (by decide)).mono ?_
  rintro e w1 ⟨q, rfl, hR, hb1⟩
  go_wp2_with fail
  refine (uint_any _ _ _ _ _ hR).mono ?_
  rintro e w2 ⟨rfl, hR2, hg2⟩
  have hB2 : Below w.heap.size w w2 := (((Below.refl w.heap.size w).alloc (Nat.le_refl _) _).trans (hb1.mono (by simp))).trans (Below.of_grown hg2 (by have := hR.lo_le; simp at this; omega) (by have := hb1.size; simp at this; omega))
  rw [hr1.out]
  go_wp2_with fail
  refine (appendUint_any none 0 0 [] 300 _ (Sl.nilv _ _) (by decide) (by decide) (by decide)).mono ?_
  rintro e w3 ⟨a3, n3, c3, rfl, ho3, hb3⟩
  rw [hr3.out] at ho3
  have hB3 := hB2.trans (hb3.mono hB2.size)
  go_wp2_with fail
  refine (appendInt_any a3 n3 c3 [172, 2] (-1) _ (Sl.of_owns ho3 (bv_one _)).2 (by decide) (by decide) (by decide)).mono ?_
  rintro e w4 ⟨a4, n4, c4, rfl, ho4, hb4⟩
  rw [hr4.out] at ho4
  have hB4 := hB3.trans (hb4.mono hB3.size)
  go_wp2_with fail
  refine (appendBytes_any a4 n4 c4 [172, 2, 1] _ 2 2 [7, 8] _ ((Sl.of_owns ho4 (bv_one _)).2.below ((Below.refl _ _).alloc (Nat.le_refl _) _)) (by decide) (Sl.lit w4 (bv [7, 8]).toArray 5 2 rfl (by decide) (bv_one _)) (by decide)).mono ?_
  rintro e w5 ⟨a5, n5, c5, rfl, ho5, hb5⟩
  rw [hr5.out] at ho5
  have hB5 := (hB4.alloc hB4.size _).trans (hb5.mono (by have := hB4.size; simp; omega))
  have hq := (Sl.of_owns ho5 (bv_one _)).2
  have q0 := Sl.run_str (P := Try.prog) hq 25 5 9 Try.underlying25 Try.underlying5 Try.underlying9
  have q2 := Sl.run_str (P := Try.prog) (Sl.lit w5 (bv [172, 2, 1, 2, 7, 8]).toArray 5 6 rfl (by decide) (bv_one _)) 25 5 9 Try.underlying25 Try.underlying5 Try.underlying9
  have e2 : (bv [172, 2, 1, 2, 7, 8]).toArray = #[.int .u8 172, .int .u8 2, .int .u8 1, .int .u8 2, .int .u8 7, .int .u8 8] := rfl
  rw [e2] at q2
  clear e2
  go_wp2
  go_ret
  exact ⟨rfl, hB5.alloc hB5.size _⟩

end Go.Proofs.Ytjpnhphnfbhpbaa
