/- The sum CRC-64/XZ as both implementations compute it, in the model's own words: no bit is looked at. -/
import Derived.Test.YtjjknjkpkoeelaaPlainCodec
set_option linter.unusedVariables false
namespace Go.Proofs.Ytjjknjkpkoeelaa
open Go Go.RowKit Go.Lib

def crcStep (x : Int) : Int := if bits .and .u64 x 1 = 1 then bits .xor .u64 (x / 2) 14514072000185962306 else x / 2
def crcN : Nat → Int → Int
  | 0, x => x
  | k + 1, x => crcStep (crcN k x)
def crcByte (x : Int) (b : UInt8) : Int := crcN 8 (bits .xor .u64 x (b.toNat : Int))
def crcFold (x : Int) (l : List UInt8) : Int := l.foldl crcByte x

theorem xor_u64 (a b : Int) : 0 ≤ bits .xor .u64 a b ∧ bits .xor .u64 a b < 18446744073709551616 := by
  show 0 ≤ IntKind.u64.wrap _ ∧ IntKind.u64.wrap _ < _
  rw [IntKind.wrap_u64]
  omega

theorem crcStep_u64 {x : Int} (h0 : 0 ≤ x) (h1 : x < 18446744073709551616) : 0 ≤ crcStep x ∧ crcStep x < 18446744073709551616 := by
  unfold crcStep
  split
  · exact xor_u64 _ _
  · omega
theorem crcN_u64 {x : Int} (h0 : 0 ≤ x) (h1 : x < 18446744073709551616) : ∀ k, 0 ≤ crcN k x ∧ crcN k x < 18446744073709551616
  | 0 => ⟨h0, h1⟩
  | k + 1 => crcStep_u64 (crcN_u64 h0 h1 k).1 (crcN_u64 h0 h1 k).2
theorem crcFold_u64 : ∀ (l : List UInt8) {x : Int}, 0 ≤ x → x < 18446744073709551616 → 0 ≤ crcFold x l ∧ crcFold x l < 18446744073709551616
  | [], x, h0, h1 => ⟨h0, h1⟩
  | b :: l, x, h0, h1 => crcFold_u64 l (crcN_u64 (xor_u64 _ _).1 (xor_u64 _ _).2 8).1 (crcN_u64 (xor_u64 _ _).1 (xor_u64 _ _).2 8).2
theorem crcFold_take (x : Int) {l : List UInt8} {i : Nat} (h : i < l.length) : crcFold x (l.take (i + 1)) = crcByte (crcFold x (l.take i)) l[i] := by
  unfold crcFold
  rw [List.take_succ_eq_append_getElem h, List.foldl_append]
  rfl

/-- The sum. -/
def crc (l : List UInt8) : Int := bits .xor .u64 IntKind.u64.max (crcFold 18446744073709551615 l)
theorem crc_u64 (l : List UInt8) : 0 ≤ crc l ∧ crc l < 18446744073709551616 := xor_u64 _ _

/-- The eight bytes of a number, the highest first. -/
def be8 (x : Int) (i : Nat) : UInt8 := UInt8.ofNat (x / 2 ^ (56 - 8 * i)).toNat
def sealL (l : List UInt8) : List UInt8 := l ++ (List.range 8).map (be8 (crc l))
theorem sealL_length (l : List UInt8) : (sealL l).length = l.length + 8 := by simp [sealL]
theorem be8_cell {x : Int} (h0 : 0 ≤ x) (h1 : x < 18446744073709551616) (i : Nat) : (x / 2 ^ (56 - 8 * i)) % 256 = ((be8 x i).toNat : Int) := by
  unfold be8
  have h2 : (0 : Int) ≤ x / 2 ^ (56 - 8 * i) := Int.ediv_nonneg h0 (by exact Int.pow_nonneg (by omega))
  rw [UInt8.toNat_ofNat']
  omega

end Go.Proofs.Ytjjknjkpkoeelaa
