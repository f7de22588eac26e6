/- The walk of CodecCount. -/
import Derived.Test.YtjpnhphnfbhpbaaAwake09
import Derived.Test.YtjpnhphnfbhpbaaCodecF
import Derived.Test.YtjpnhphnfbhpbaaCodecL
import Derived.Test.YtjpnhphnfbhpbaaCodecE
import Derived.Test.YtjpnhphnfbhpbaaPlainRound
import Derived.Test.YtjpnhphnfbhpbaaKit2
set_option linter.unusedVariables false
namespace Go.Proofs.Ytjpnhphnfbhpbaa
open Go Go.RowKit Go.Lib

theorem cplain (n m : Int) (hn0 : 0 ≤ n) (hn1 : n < 18446744073709551616) : rdU (some (uvarint n.toNat ++ uvarint 1)) = some (n.toNat, uvarint 1) := rdU_round _ (by omega)

set_option maxRecDepth 100000 in
set_option maxHeartbeats 1600000 in
theorem count_walk (n m : Int) (w : World) (hn0 : 0 ≤ n) (hn1 : n < 18446744073709551616) (hm0 : -9223372036854775808 ≤ m) (hm1 : m ≤ 9223372036854775807) :
    Calls Try.prog 6 #[.int .u64 n, .int .i64 m] w fun e w' => e = .returned (.bool true) ∧ Below w.heap.size w w' := by
  by_cases hneg : m < 0
  · go_enter Try.func6, Try.ntmps6
    go_wp2_with (go_at_call 10; refine (awake09 _).mono ?_; rintro e w1 ⟨rfl, hb1⟩)
    go_ret
    exact ⟨rfl, hb1⟩
  have hm : 0 ≤ m := by omega
  clear hneg hm0
  have hu := cplain n m hn0 hn1
  have hlen := uvarint_length64 (x := n.toNat) (by omega)
  have h1 : Hid (uvarint 1 = [1]) := Lib.hid (uvarint_small (by decide))
  have hl1 : (uvarint 1).length ≤ 10 := by rw [h1.out]; decide
  go_enter Try.func6, Try.ntmps6
  go_wp2_with fail
  refine (awake09 _).mono ?_
  rintro e w1 ⟨rfl, hb1⟩
  go_wp2_with fail
  refine (appendUint_any none 0 0 [] n _ (Sl.nilv _ _) (by decide) hn0 hn1).mono ?_
  rintro e w2 ⟨a2, n2, c2, rfl, ho2, hb2⟩
  rw [List.nil_append] at ho2
  go_wp2_with fail
  refine (appendUint_any a2 n2 c2 (uvarint n.toNat) 1 _ (Sl.of_owns ho2 (bv_one _)).2 (by omega) (by decide) (by decide)).mono ?_
  rintro e w3 ⟨a3, n3, c3, rfl, ho3, hb3⟩
  rw [show (1 : Int).toNat = 1 from rfl] at ho3
  go_wp2_with fail
  refine (new_any a3 n3 c3 _ _ (Sl.of_owns ho3 (bv_one _)).2 (by rw [List.length_append]; omega)).mono ?_
  rintro e w4 ⟨q, rfl, hR4, hb4⟩
  have hB3 : Below w.heap.size w w3 := (hb1.trans (hb2.mono hb1.size)).trans (hb3.mono (by have := hb1.size; have := hb2.size; omega))
  have hB4 := hB3.trans (hb4.mono hB3.size)
  have hlo := hR4.lo_le
  have hq : w.heap.size ≤ q := by have := hB3.size; omega
  clear hb1 hb2 hb3 hb4 ho2 ho3 hB3 hlo
  have HU := Lib.hid hu
  clear hu
  by_cases hle : n ≤ m
  · obtain ⟨r1, r2, r3⟩ := c_ok (m := m) HU.out (by omega)
    have R := Lib.hid (And.intro r1 (And.intro r2 r3))
    clear r1 r2 r3
    go_wp2_with fail
    refine (count_any _ _ _ _ m _ hR4 (by omega) hm1).mono ?_
    rintro e w5 ⟨rfl, hR5, hg5⟩
    rw [R.out.1, R.out.2.1]
    rw [R.out.2.2, h1.out] at hR5
    rw [Int.toNat_of_nonneg hn0]
    have hB5 := hB4.trans (Below.of_grown hg5 hq hB4.size)
    go_wp2_with fail
    refine (uint_any _ _ _ _ _ hR5).mono ?_
    rintro e w6 ⟨rfl, hR6, hg6⟩
    obtain ⟨t1, t2, t3⟩ := rdU_ok (s := some [1]) (v := 1) (r := []) rfl
    rw [t1, t2]
    rw [t3] at hR6
    have hB6 := hB5.trans (Below.of_grown hg6 hq hB5.size)
    clear t1 t2 t3
    go_wp2_with (go_at_call 26; refine (done_any _ _ _ _ _ hR6).mono ?_; rintro e w7 ⟨rfl, rfl⟩; rw [show dE (some []) = 0 from rfl])
    go_ret
    exact ⟨rfl, hB6⟩
  · obtain ⟨r1, r2, r3⟩ := c_over (m := m) HU.out (by omega)
    have R := Lib.hid (And.intro r1 (And.intro r2 r3))
    clear r1 r2 r3
    go_wp2_with fail
    refine (count_any _ _ _ _ m _ hR4 (by omega) hm1).mono ?_
    rintro e w5 ⟨rfl, hR5, hg5⟩
    rw [R.out.1, R.out.2.1]
    rw [R.out.2.2] at hR5
    have hB5 := hB4.trans (Below.of_grown hg5 hq hB4.size)
    go_wp2_with fail
    refine (uint_any _ _ _ _ _ hR5).mono ?_
    rintro e w6 ⟨rfl, hR6, hg6⟩
    obtain ⟨t1, t2, t3⟩ := rdU_bad (s := none) rfl
    rw [t1, t2]
    rw [t3] at hR6
    have hB6 := hB5.trans (Below.of_grown hg6 hq hB5.size)
    clear t1 t2 t3
    go_wp2_with (first | (go_at_call 24; refine (left_any _ _ _ _ _ hR6).mono ?_; rintro e w7 ⟨rfl, rfl⟩; rw [show (((none : Option (List UInt8)).getD []).length : Int) = 0 from rfl]) | (go_at_call 26; refine (done_any _ _ _ _ _ hR6).mono ?_; rintro e w8 ⟨rfl, rfl⟩; rw [show dE none = 5 from rfl]))
    go_ret
    exact ⟨rfl, hB6⟩

end Go.Proofs.Ytjpnhphnfbhpbaa
