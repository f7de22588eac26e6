/- The encodings of layer 9 as plain functions: no program in sight. -/
import Derived.Lib.Varint
import Derived.Lib.Zigzag
import Derived.Lib.VarintBits
import Derived.RowKit
set_option linter.unusedVariables false
namespace Go.Proofs.Ytjjknjkpkoeelaa
open Go Go.Lib Go.RowKit

theorem byte_or128 (m : Nat) : bits .or .u8 ((m : Int) % 256) 128 = (((m % 128 + 128).toUInt8).toNat : Int) := by
  rw [u8_or128_any _ (by omega) (by omega)]
  simp only [Nat.toUInt8, UInt8.toNat_ofNat']
  omega

theorem byte_sum128 (m : Nat) : (m : Int) % 128 + 128 = (((m % 128 + 128).toUInt8).toNat : Int) := by
  simp only [Nat.toUInt8, UInt8.toNat_ofNat']
  omega

theorem byte_low (m : Nat) (h : m < 128) : (m : Int) = ((m.toUInt8).toNat : Int) := by
  simp only [Nat.toUInt8, UInt8.toNat_ofNat']
  omega

/-- 'uint64(n)<<1 ^ uint64(n>>63)' is the zig-zag. -/
theorem zz_eq (k : Int) (h0 : -9223372036854775808 ≤ k) (h1 : k ≤ 9223372036854775807) :
    bits .xor .u64 (IntKind.u64.wrap (IntKind.u64.wrap k * 2)) (IntKind.u64.wrap (k / 9223372036854775808)) = ((zigzag k : Nat) : Int) := by
  by_cases hk : 0 ≤ k
  · have e1 : IntKind.u64.wrap (IntKind.u64.wrap k * 2) = (((k * 2).toNat : Nat) : Int) := by
      rw [IntKind.wrap_u64, IntKind.wrap_u64]; omega
    have e2 : IntKind.u64.wrap (k / 9223372036854775808) = ((0 : Nat) : Int) := by
      rw [IntKind.wrap_u64]; omega
    rw [e1, e2, bits_xor_u64_nat _ _ (by omega) (by decide), zigzag_nonneg hk]
    simp only [Nat.xor_zero]
    omega
  · have e1 : IntKind.u64.wrap (IntKind.u64.wrap k * 2) = (((2 * k + 18446744073709551616).toNat : Nat) : Int) := by
      rw [IntKind.wrap_u64, IntKind.wrap_u64]; omega
    have e2 : IntKind.u64.wrap (k / 9223372036854775808) = ((2 ^ 64 - 1 : Nat) : Int) := by
      rw [IntKind.wrap_u64]; omega
    rw [e1, e2, bits_xor_u64_nat _ _ (by omega) (by decide), Nat.xor_comm, xor_ones64 _ (by omega)]
    unfold zigzag
    rw [if_neg hk]
    omega

theorem zz_pos (k : Int) (h : 0 ≤ k) : 2 * k = ((zigzag k : Nat) : Int) := by rw [zigzag_nonneg h]; omega
theorem zz_neg (k : Int) (h : k < 0) : 2 * -(k + 1) + 1 = ((zigzag k : Nat) : Int) := by
  unfold zigzag
  rw [if_neg (by omega)]
  omega

/-! ### reading -/

/-- i bytes of a number have been read, they spell acc: the number and the bytes behind it, or nothing where it is no encoding. -/
def rdFrom : Nat → Nat → List UInt8 → Option (Nat × List UInt8)
  | _, _, [] => none
  | i, acc, b :: r =>
    if i = 9 ∧ 1 < b.toNat then none
    else if b.toNat < 128 then
      if b.toNat = 0 ∧ 0 < i then none else some (acc + b.toNat % 128 * 2 ^ (7 * i), r)
    else rdFrom (i + 1) (acc + b.toNat % 128 * 2 ^ (7 * i)) r

def rdU (s : Option (List UInt8)) : Option (Nat × List UInt8) := s.bind (rdFrom 0 0)
/-- The value, the error and the bytes left of a read of a natural number. -/
def uV (s : Option (List UInt8)) : Nat := match rdU s with | some p => p.1 | none => 0
def uE (s : Option (List UInt8)) : Int := match rdU s with | some _ => 0 | none => 5
def uS (s : Option (List UInt8)) : Option (List UInt8) := match rdU s with | some p => some p.2 | none => none

theorem pow7_le (i : Nat) (hi : i ≤ 9) : 2 ^ (7 * i) ≤ 9223372036854775808 := by
  calc 2 ^ (7 * i) ≤ 2 ^ (7 * 9) := Nat.pow_le_pow_right (by decide) (by omega)
    _ = 9223372036854775808 := by decide

theorem pow7_succ (i : Nat) : 2 ^ (7 * (i + 1)) = 128 * 2 ^ (7 * i) := by
  rw [show 7 * (i + 1) = 7 * i + 7 by omega, Nat.pow_add]
  omega

/-- What is added in a round: no bit is lost, none is met. -/
theorem acc_lt (i acc b : Nat) (hi : i ≤ 9) (hacc : acc < 2 ^ (7 * i)) (hb : i = 9 → b ≤ 1) : acc + b % 128 * 2 ^ (7 * i) < 2 ^ (7 * (i + 1)) ∧ b % 128 * 2 ^ (7 * i) < 18446744073709551616 ∧ acc + b % 128 * 2 ^ (7 * i) < 18446744073709551616 := by
  have h1 : b % 128 * 2 ^ (7 * i) ≤ 127 * 2 ^ (7 * i) := Nat.mul_le_mul_right _ (by omega)
  have h2 := pow7_succ i
  by_cases h9 : i = 9
  · subst h9
    have h3 : b % 128 * 2 ^ (7 * 9) ≤ 1 * 2 ^ (7 * 9) := Nat.mul_le_mul_right _ (by have := hb rfl; omega)
    have e : 2 ^ (7 * 9) = 9223372036854775808 := by decide
    rw [e] at h1 h2 h3 hacc ⊢
    omega
  · have h4 : 2 ^ (7 * (i + 1)) ≤ 9223372036854775808 := pow7_le (i + 1) (by omega)
    omega

theorem rdU_bad {s : Option (List UInt8)} (h : rdU s = none) : uV s = 0 ∧ uE s = 5 ∧ uS s = none := by simp [uV, uE, uS, h]
theorem rdU_ok {s : Option (List UInt8)} {v : Nat} {r : List UInt8} (h : rdU s = some (v, r)) : uV s = v ∧ uE s = 0 ∧ uS s = some r := by simp [uV, uE, uS, h]

/-- 'n |= c & 0x7f << (7*i)' adds the seven bits. -/
theorem or_step (i acc b : Nat) (hi : i ≤ 9) (hacc : acc < 2 ^ (7 * i)) (hb : b < 256) (hb9 : i = 9 → b ≤ 1) :
    bits .or .u64 (acc : Int) (IntKind.u64.wrap (bits .and .u64 (b : Int) 127 * 2 ^ (7 * i))) = ((acc + b % 128 * 2 ^ (7 * i) : Nat) : Int) := by
  obtain ⟨h1, h2, h3⟩ := acc_lt i acc b hi hacc hb9
  have hp : (2 : Nat) ^ (7 * i) ≤ 9223372036854775808 := pow7_le i hi
  have e1 : bits .and .u64 (b : Int) 127 = ((b % 128 : Nat) : Int) := by
    have := bits_mask .u64 64 (by decide) wraps_u64 7 (by decide) (b : Int) (by omega) (by omega)
    simpa using this
  have e2 : ((b % 128 : Nat) : Int) * 2 ^ (7 * i) = ((b % 128 * 2 ^ (7 * i) : Nat) : Int) := by
    rw [Int.natCast_mul, Int.natCast_pow]; rfl
  rw [e1, e2, IntKind.wrap_u64, show ((b % 128 * 2 ^ (7 * i) : Nat) : Int) % 18446744073709551616 = ((b % 128 * 2 ^ (7 * i) : Nat) : Int) by omega]
  have hmod : ((b % 128 * 2 ^ (7 * i) : Nat) : Int) % 2 ^ (7 * i) = 0 := by
    rw [← e2]; exact Int.mul_emod_left _ _
  have hlt : (acc : Int) < 2 ^ (7 * i) := by
    have : ((acc : Nat) : Int) < ((2 ^ (7 * i) : Nat) : Int) := by omega
    rw [Int.natCast_pow] at this
    exact this
  rw [bits_join_low .u64 64 (by decide) wraps_u64 (7 * i) (acc : Int) _ (by omega) hlt (by omega) (by omega) hmod (by omega)]
  omega

theorem or_step9 (acc b : Nat) (hacc : acc < 2 ^ (7 * 9)) (hb : b ≤ 1) :
    bits .or .u64 (acc : Int) (IntKind.u64.wrap (bits .and .u64 (b : Int) 127 * 9223372036854775808)) = ((acc + b % 128 * 2 ^ (7 * 9) : Nat) : Int) := by
  have h := or_step 9 acc b (by omega) hacc (by omega) (fun _ => hb)
  have e : (2 : Int) ^ (7 * 9) = 9223372036854775808 := by decide
  rwa [e] at h

/-- The reference adds them as numbers. -/
theorem ref_step (i acc b : Nat) (hi : i ≤ 9) (hacc : acc < 2 ^ (7 * i)) (hb : b < 256) (hb9 : i = 9 → b ≤ 1) :
    IntKind.u64.wrap ((acc : Int) + IntKind.u64.wrap ((b : Int) % 128 * 2 ^ (7 * i))) = ((acc + b % 128 * 2 ^ (7 * i) : Nat) : Int) := by
  obtain ⟨h1, h2, h3⟩ := acc_lt i acc b hi hacc hb9
  have e2 : (b : Int) % 128 * 2 ^ (7 * i) = ((b % 128 * 2 ^ (7 * i) : Nat) : Int) := by
    rw [Int.natCast_mul, Int.natCast_pow, Int.natCast_emod]; rfl
  rw [e2, IntKind.wrap_u64, IntKind.wrap_u64]
  omega

theorem ref_step9 (acc b : Nat) (hacc : acc < 2 ^ (7 * 9)) (hb : b ≤ 1) :
    IntKind.u64.wrap ((acc : Int) + IntKind.u64.wrap ((b : Int) % 128 * 9223372036854775808)) = ((acc + b % 128 * 2 ^ (7 * 9) : Nat) : Int) := by
  have h := ref_step 9 acc b (by omega) hacc (by omega) (fun _ => hb)
  have e : (2 : Int) ^ (7 * 9) = 9223372036854775808 := by decide
  rwa [e] at h

/-- The four ways of a round. -/
theorem rd_over' {i acc : Nat} {b : UInt8} {r : List UInt8} (h : i = 9 ∧ 1 < b.toNat) : rdFrom i acc (b :: r) = none := by rw [rdFrom, if_pos h]

theorem rd_over {acc : Nat} {b : UInt8} {r : List UInt8} (h : 1 < b.toNat) : rdFrom 9 acc (b :: r) = none := by rw [rdFrom, if_pos ⟨rfl, h⟩]
theorem rd_more {i acc : Nat} {b : UInt8} {r : List UInt8} (h : ¬ (i = 9 ∧ 1 < b.toNat)) (h0 : b.toNat = 0) (hi : 0 < i) : rdFrom i acc (b :: r) = none := by
  rw [rdFrom, if_neg h, if_pos (by omega), if_pos ⟨h0, hi⟩]
theorem rd_done {i acc : Nat} {b : UInt8} {r : List UInt8} (h : ¬ (i = 9 ∧ 1 < b.toNat)) (hb : b.toNat < 128) (h0 : ¬ (b.toNat = 0 ∧ 0 < i)) : rdFrom i acc (b :: r) = some (acc + b.toNat % 128 * 2 ^ (7 * i), r) := by
  rw [rdFrom, if_neg h, if_pos hb, if_neg h0]
theorem rd_next {i acc : Nat} {b : UInt8} {r : List UInt8} (h : ¬ (i = 9 ∧ 1 < b.toNat)) (hb : 128 ≤ b.toNat) : rdFrom i acc (b :: r) = rdFrom (i + 1) (acc + b.toNat % 128 * 2 ^ (7 * i)) r := by
  rw [rdFrom, if_neg h, if_neg (by omega)]

theorem rdFrom_lt : ∀ (l : List UInt8) (i acc v : Nat) (r : List UInt8), i ≤ 9 → acc < 2 ^ (7 * i) → rdFrom i acc l = some (v, r) → v < 18446744073709551616 ∧ r.length < l.length
  | [], i, acc, v, r, _, _, h => by simp [rdFrom] at h
  | b :: t, i, acc, v, r, hi, hacc, h => by
    have hb := b.toNat_lt
    by_cases h1 : i = 9 ∧ 1 < b.toNat
    · rw [rdFrom, if_pos h1] at h; cases h
    · have hb9 : i = 9 → b.toNat ≤ 1 := fun e => by omega
      have ha := acc_lt i acc b.toNat hi hacc hb9
      by_cases h2 : b.toNat < 128
      · by_cases h3 : b.toNat = 0 ∧ 0 < i
        · rw [rdFrom, if_neg h1, if_pos h2, if_pos h3] at h; cases h
        · rw [rd_done h1 h2 h3] at h
          simp only [Option.some.injEq, Prod.mk.injEq] at h
          obtain ⟨rfl, rfl⟩ := h
          exact ⟨ha.2.2, by simp⟩
      · rw [rd_next h1 (by omega)] at h
        have := rdFrom_lt t (i + 1) _ v r (by omega) ha.1 h
        exact ⟨this.1, by simp; omega⟩

theorem rdU_lt {s : Option (List UInt8)} {v : Nat} {r : List UInt8} (h : rdU s = some (v, r)) : v < 18446744073709551616 := by
  cases s with
  | none => cases h
  | some l => exact (rdFrom_lt l 0 0 v r (by omega) (by decide) h).1

theorem uV_lt (s : Option (List UInt8)) : uV s < 18446744073709551616 := by
  unfold uV
  split
  · rename_i p hp
    exact rdU_lt (r := p.2) (by rw [hp])
  · decide

theorem uE_cases (s : Option (List UInt8)) : uE s = 0 ∨ uE s = 5 := by unfold uE; split <;> simp

/-- Back from the zig-zag. -/
def unzig (n : Nat) : Int := if n % 2 = 0 then ((n / 2 : Nat) : Int) else -((n / 2 : Nat) : Int) - 1

/-- A read of a number that is at most m. -/
def cV (s : Option (List UInt8)) (m : Int) : Int := match rdU s with | some p => if (p.1 : Int) ≤ m then (p.1 : Int) else 0 | none => 0
def cE (s : Option (List UInt8)) (m : Int) : Int := match rdU s with | some p => if (p.1 : Int) ≤ m then 0 else 5 | none => 5
def cS (s : Option (List UInt8)) (m : Int) : Option (List UInt8) := match rdU s with | some p => if (p.1 : Int) ≤ m then some p.2 else none | none => none

theorem c_bad {s : Option (List UInt8)} {m : Int} (h : rdU s = none) : cV s m = 0 ∧ cE s m = 5 ∧ cS s m = none := by simp [cV, cE, cS, h]
theorem c_ok {s : Option (List UInt8)} {m : Int} {v : Nat} {r : List UInt8} (h : rdU s = some (v, r)) (hm : (v : Int) ≤ m) : cV s m = v ∧ cE s m = 0 ∧ cS s m = some r := by simp [cV, cE, cS, h, hm]
theorem c_over {s : Option (List UInt8)} {m : Int} {v : Nat} {r : List UInt8} (h : rdU s = some (v, r)) (hm : ¬ (v : Int) ≤ m) : cV s m = 0 ∧ cE s m = 5 ∧ cS s m = none := by simp [cV, cE, cS, h, hm]

theorem unzig_eq (n : Nat) (hn : n < 18446744073709551616) : bits .xor .i64 ((n : Int) / 2) (wrap64 (-wrap64 (bits .and .u64 (n : Int) 1))) = unzig n := by
  rw [u64_and1 (n : Int) (by omega) (by omega)]
  have e1 : (n : Int) / 2 = ((n / 2 : Nat) : Int) := by omega
  by_cases h : n % 2 = 0
  · have e2 : (n : Int) % 2 = 0 := by omega
    rw [e1, e2]
    have e3 : wrap64 (-wrap64 0) = ((0 : Nat) : Int) := by decide
    rw [e3]
    unfold unzig
    rw [if_pos h]
    show IntKind.i64.wrap ((BitVec.ofInt 64 ((n / 2 : Nat) : Int) ^^^ BitVec.ofInt 64 ((0 : Nat) : Int)).toNat : Int) = _
    rw [BitVec.ofInt_natCast, BitVec.ofInt_natCast]
    have : (BitVec.ofNat 64 0) = 0#64 := rfl
    rw [this, BitVec.xor_zero, BitVec.toNat_ofNat, IntKind.wrap_i64]
    omega
  · have e2 : (n : Int) % 2 = 1 := by omega
    rw [e1, e2]
    have e3 : wrap64 (-wrap64 1) = -1 := by decide
    rw [e3]
    have hc : bits .xor .i64 ((n / 2 : Nat) : Int) (-1) = bits .xor .i64 (-1) ((n / 2 : Nat) : Int) := by
      show IntKind.i64.wrap _ = IntKind.i64.wrap _
      rw [BitVec.xor_comm]
    rw [hc, i64_not _ (by omega)]
    unfold unzig
    rw [if_neg h]

/-- A read of a byte string, and of eight bytes. -/
def bR (s : Option (List UInt8)) : Option (List UInt8 × List UInt8) := match rdU s with | some p => if p.1 ≤ p.2.length then some (p.2.take p.1, p.2.drop p.1) else none | none => none
def bV (s : Option (List UInt8)) : List UInt8 := match bR s with | some p => p.1 | none => []
def bE (s : Option (List UInt8)) : Int := match bR s with | some _ => 0 | none => 5
def bS (s : Option (List UInt8)) : Option (List UInt8) := match bR s with | some p => some p.2 | none => none
theorem b_bad {s : Option (List UInt8)} (h : bR s = none) : bV s = [] ∧ bE s = 5 ∧ bS s = none := by simp [bV, bE, bS, h]
theorem b_ok {s : Option (List UInt8)} {x r : List UInt8} (h : bR s = some (x, r)) : bV s = x ∧ bE s = 0 ∧ bS s = some r := by simp [bV, bE, bS, h]

def kR (s : Option (List UInt8)) : Option (List UInt8 × List UInt8) := match s with | some l => if 8 ≤ l.length then some (l.take 8, l.drop 8) else none | none => none
def kV (s : Option (List UInt8)) : List UInt8 := match kR s with | some p => p.1 | none => [0, 0, 0, 0, 0, 0, 0, 0]
def kE (s : Option (List UInt8)) : Int := match kR s with | some _ => 0 | none => 5
def kS (s : Option (List UInt8)) : Option (List UInt8) := match kR s with | some p => some p.2 | none => none
theorem k_bad {s : Option (List UInt8)} (h : kR s = none) : kV s = [0, 0, 0, 0, 0, 0, 0, 0] ∧ kE s = 5 ∧ kS s = none := by simp [kV, kE, kS, h]
theorem k_ok {s : Option (List UInt8)} {x r : List UInt8} (h : kR s = some (x, r)) : kV s = x ∧ kE s = 0 ∧ kS s = some r := by simp [kV, kE, kS, h]

/-- Done. -/
def dE (s : Option (List UInt8)) : Int := match s with | some [] => 0 | _ => 5

theorem list8 {l : List UInt8} (h : l.length = 8) : ∃ x0 x1 x2 x3 x4 x5 x6 x7, l = [x0, x1, x2, x3, x4, x5, x6, x7] := by
  rcases l with _ | ⟨x0, _ | ⟨x1, _ | ⟨x2, _ | ⟨x3, _ | ⟨x4, _ | ⟨x5, _ | ⟨x6, _ | ⟨x7, l⟩⟩⟩⟩⟩⟩⟩⟩
  all_goals simp at h
  · subst h; exact ⟨_, _, _, _, _, _, _, _, rfl⟩

end Go.Proofs.Ytjjknjkpkoeelaa
