/- Contracts of crc64 and of its reference. -/
import Derived.Test.YtjjknjkpkoeelaaCodecA
import Derived.Test.YtjjknjkpkoeelaaPlainCrc
import Derived.Test.YtjjknjkpkoeelaaKit2
set_option linter.unusedVariables false
namespace Go.Proofs.Ytjjknjkpkoeelaa
open Go Go.RowKit Go.Lib

set_option maxRecDepth 100000 in
theorem step_any (x : Int) (w : World) (h0 : 0 ≤ x) (h1 : x < 18446744073709551616) :
    Calls Try.prog 73 #[.int .u64 x] w fun e w' => e = .returned (.int .u64 (crcStep x)) ∧ w = w' := by
  by_cases h : bits .and .u64 x 1 = 1
  · go_enter Try.func73, Try.ntmps73
    go_wp2
    go_ret
    rw [crcStep, if_pos h]
    exact ⟨rfl, rfl⟩
  · go_enter Try.func73, Try.ntmps73
    go_wp2
    go_ret
    rw [crcStep, if_neg h]
    exact ⟨rfl, rfl⟩

set_option maxRecDepth 100000 in
theorem refSteps_any (x : Int) (n : Nat) (w : World) (h0 : 0 ≤ x) (h1 : x < 18446744073709551616) (hn : n ≤ 1000) :
    Calls Try.prog 74 #[.int .u64 x, .int .i64 (n : Int)] w fun e w' => e = .returned (.int .u64 (crcN n x)) ∧ w = w' := by
  go_enter Try.func74, Try.ntmps74
  go_wp2_with fail
  go_loopw [0, 5] (fun xv iv wr => ∃ (i : Nat), xv = .int .u64 (crcN i x) ∧ iv = .int .i64 (i : Int) ∧ i ≤ n ∧ w = wr) (fun _ iv _ => n - (intOf iv).toNat)
  case atStart => exact ⟨0, rfl, rfl, by omega, rfl⟩
  case round =>
    obtain ⟨i, rfl, rfl, hin, rfl⟩ := hrel
    obtain ⟨b0, b1⟩ := crcN_u64 h0 h1 i
    by_cases hi : i < n
    · have hiI : (i : Int) < n := by omega
      by_cases h : bits .and .u64 (crcN i x) 1 = 1
      · go_wp2
        go_roundw
        case rel => exact ⟨i + 1, by rw [crcN, crcStep, if_pos h], by go_num, by omega, trivial⟩
        case measure => simp [intOf]; omega
      · go_wp2
        go_roundw
        case rel => exact ⟨i + 1, by rw [crcN, crcStep, if_neg h], by go_num, by omega, trivial⟩
        case measure => simp [intOf]; omega
    · have hiI : ¬ (i : Int) < n := by omega
      obtain rfl : n = i := by omega
      go_wp2
      go_ret
      exact ⟨rfl, rfl⟩

set_option maxRecDepth 100000 in
theorem refUpdate_any (a : Option Addr) (n c : Nat) (l : List UInt8) (w : World) (h : Sl w 1 a n c (bv l)) (hl : l.length ≤ 1000000) :
    Calls Try.prog 72 #[.int .u64 0, .slice a n c] w fun e w' => e = .returned (.int .u64 (crc l)) ∧ w = w' := by
  have hlen := h.len
  rw [bv_length, Nat.mul_one] at hlen
  have hcap := h.cap
  have hn6 : n ≤ 1000000 := by omega
  have HL := Lib.hid hlen
  have Hh := Lib.hid h
  clear hlen h
  go_enter Try.func72, Try.ntmps72
  go_wp2_with fail
  go_loopw [5, 6] (fun xv iv wr => ∃ (i : Nat), xv = .int .u64 (crcFold 18446744073709551615 (l.take i)) ∧ iv = .int .i64 (i : Int) ∧ i ≤ n ∧ w = wr) (fun _ iv _ => n - (intOf iv).toNat)
  case atStart => exact ⟨0, rfl, rfl, by omega, rfl⟩
  case round =>
    obtain ⟨i, rfl, rfl, hin, rfl⟩ := hrel
    by_cases hi : i < n
    · have hiI : (i : Int) < n := by omega
      have hi0 : (0 : Int) ≤ (i : Int) := by omega
      have hik : i < l.length := by have := HL.out; omega
      obtain ⟨b, off, ha, hcell⟩ := Hh.out.at (k := i) (by rw [bv_length]; exact hik)
      subst ha
      have hc := hcell i (by rw [bv_length]; exact hik)
      simp only [bv, List.getElem_map] at hc
      obtain ⟨x0, x1⟩ := xor_u64 (crcFold 18446744073709551615 (l.take i)) (l[i].toNat : Int)
      have hb256 : (l[i].toNat : Int) < 256 := by have := l[i].toNat_lt; omega
      clear hcell
      go_wp2_with (go_at_call 74; refine (refSteps_any _ 8 _ x0 x1 (by decide)).mono ?_; rintro e wz ⟨rfl, rfl⟩)
      go_roundw
      case rel => exact ⟨i + 1, by rw [crcFold_take _ hik]; rfl, by go_num, by omega, trivial⟩
      case measure => simp [intOf]; omega
    · have hiI : ¬ (i : Int) < n := by omega
      obtain rfl : n = i := by omega
      go_wp2
      go_ret
      rw [List.take_of_length_le (by have := HL.out; omega)]
      exact ⟨rfl, rfl⟩

set_option maxRecDepth 100000 in
theorem refSum_any (a : Option Addr) (n c : Nat) (l : List UInt8) (w : World) (h : Sl w 1 a n c (bv l)) (hl : l.length ≤ 1000000) :
    Calls Try.prog 67 #[.slice a n c] w fun e w' => e = .returned (.int .u64 (crc l)) ∧ w = w' := by
  go_enter Try.func67, Try.ntmps67
  go_wp2_with (go_at_call 72; refine (refUpdate_any _ _ _ l _ h hl).mono ?_; rintro e wz ⟨rfl, rfl⟩)
  go_ret
  exact ⟨rfl, rfl⟩

set_option maxRecDepth 100000 in
theorem update_any (a : Option Addr) (n c : Nat) (l : List UInt8) (w : World) (h : Sl w 1 a n c (bv l)) (hl : l.length ≤ 1000000) :
    Calls Try.prog 68 #[.int .u64 0, .slice a n c] w fun e w' => e = .returned (.int .u64 (crc l)) ∧ w = w' := by
  have hlen := h.len
  rw [bv_length, Nat.mul_one] at hlen
  have hcap := h.cap
  have hn6 : n ≤ 1000000 := by omega
  have HL := Lib.hid hlen
  have Hh := Lib.hid h
  clear hlen h
  go_enter Try.func68, Try.ntmps68
  go_wp2_with fail
  go_loopw [5, 12] (fun xv iv wr => ∃ (i : Nat), xv = .int .u64 (crcFold 18446744073709551615 (l.take i)) ∧ iv = .int .i64 (i : Int) ∧ i ≤ n ∧ w = wr) (fun _ iv _ => n - (intOf iv).toNat)
  case atStart => exact ⟨0, rfl, rfl, by omega, rfl⟩
  case round =>
    obtain ⟨i, rfl, rfl, hin, rfl⟩ := hrel
    by_cases hi : i < n
    · have hiI : (i : Int) < n := by omega
      have hi0 : (0 : Int) ≤ (i : Int) := by omega
      have hik : i < l.length := by have := HL.out; omega
      obtain ⟨b, off, ha, hcell⟩ := Hh.out.at (k := i) (by rw [bv_length]; exact hik)
      subst ha
      have hc := hcell i (by rw [bv_length]; exact hik)
      simp only [bv, List.getElem_map] at hc
      obtain ⟨x0, x1⟩ := xor_u64 (crcFold 18446744073709551615 (l.take i)) (l[i].toNat : Int)
      have hb256 : (l[i].toNat : Int) < 256 := by have := l[i].toNat_lt; omega
      clear hcell
      go_wp2
      go_loopw [5, 20] (fun xv kv wr => ∃ (k : Nat), xv = .int .u64 (crcN k (bits .xor .u64 (crcFold 18446744073709551615 (l.take i)) (l[i].toNat : Int))) ∧ kv = .int .i64 (k : Int) ∧ k ≤ 8 ∧ w = wr) (fun _ kv _ => 8 - (intOf kv).toNat)
      case atStart => exact ⟨0, rfl, rfl, by omega, rfl⟩
      case round =>
        obtain ⟨k, rfl, rfl, hk8, rfl⟩ := hrel
        obtain ⟨y0, y1⟩ := crcN_u64 x0 x1 k
        by_cases hk : k < 8
        · have hkI : (k : Int) < 8 := by omega
          go_wp2_with (go_at_call 73; refine (step_any _ _ y0 y1).mono ?_; rintro e wz ⟨rfl, rfl⟩)
          go_roundw
          case rel => exact ⟨k + 1, rfl, by go_num, by omega, trivial⟩
          case measure => simp [intOf]; omega
        · have hkI : ¬ (k : Int) < 8 := by omega
          obtain rfl : 8 = k := by omega
          go_wp2
          go_roundw
          case rel => exact ⟨i + 1, by rw [crcFold_take _ hik]; rfl, by go_num, by omega, trivial⟩
          case measure => simp [intOf]; omega
    · have hiI : ¬ (i : Int) < n := by omega
      obtain rfl : n = i := by omega
      go_wp2
      go_ret
      rw [List.take_of_length_le (by have := HL.out; omega)]
      exact ⟨rfl, rfl⟩

set_option maxRecDepth 100000 in
theorem sum_any (a : Option Addr) (n c : Nat) (l : List UInt8) (w : World) (h : Sl w 1 a n c (bv l)) (hl : l.length ≤ 1000000) :
    Calls Try.prog 55 #[.slice a n c] w fun e w' => e = .returned (.int .u64 (crc l)) ∧ w = w' := by
  go_enter Try.func55, Try.ntmps55
  go_wp2_with (go_at_call 68; refine (update_any _ _ _ l _ h hl).mono ?_; rintro e wz ⟨rfl, rfl⟩)
  go_ret
  exact ⟨rfl, rfl⟩

end Go.Proofs.Ytjjknjkpkoeelaa
