/- Encodings of different numbers are different, and none begins another: no program in sight. -/
import Derived.Test.YtjpnhphnfbhpbaaPlainCodec
set_option linter.unusedVariables false
namespace Go.Proofs.Ytjpnhphnfbhpbaa
open Go Go.Lib Go.RowKit

theorem u8_lt {x : Nat} (h : x < 256) : (x.toUInt8).toNat = x := by simp only [Nat.toUInt8, UInt8.toNat_ofNat']; omega
theorem u8_inj {x y : Nat} (hx : x < 256) (hy : y < 256) (h : x.toUInt8 = y.toUInt8) : x = y := by rw [← u8_lt hx, ← u8_lt hy, h]

/-- No encoding begins another one. -/
theorem uvarint_pfx : ∀ (x y : Nat), uvarint x <+: uvarint y → x = y := by
  intro x
  induction x using Nat.strongRecOn with
  | ind x ih =>
    intro y h
    by_cases hx : x < 128
    · rw [uvarint_small hx] at h
      by_cases hy : y < 128
      · rw [uvarint_small hy] at h
        have := List.cons_prefix_cons.1 h
        exact u8_inj (by omega) (by omega) this.1
      · rw [uvarint_big (by omega)] at h
        have := (List.cons_prefix_cons.1 h).1
        have := u8_inj (by omega) (by omega) this
        omega
    · rw [uvarint_big (by omega : 128 ≤ x)] at h
      by_cases hy : y < 128
      · rw [uvarint_small hy] at h
        have := (List.cons_prefix_cons.1 h).1
        have := u8_inj (by omega) (by omega) this
        omega
      · rw [uvarint_big (by omega : 128 ≤ y)] at h
        obtain ⟨h1, h2⟩ := List.cons_prefix_cons.1 h
        have e1 := u8_inj (by omega) (by omega) h1
        have e2 := ih (x / 128) (by omega) (y / 128) h2
        omega

theorem take_min_pfx {l m : List UInt8} (h : l.take (min l.length m.length) = m.take (min l.length m.length)) : l <+: m ∨ m <+: l := by
  rcases Nat.le_total l.length m.length with hle | hle
  · rw [Nat.min_eq_left hle, List.take_length] at h
    exact .inl (h ▸ List.take_prefix _ _)
  · rw [Nat.min_eq_right hle, List.take_length] at h
    exact .inr (h ▸ List.take_prefix _ _)

theorem prefix_uv (x y : Nat) : ((uvarint x).take (min (uvarint x).length (uvarint y).length) == (uvarint y).take (min (uvarint x).length (uvarint y).length)) = decide (x = y) := by
  by_cases h : x = y
  · subst h; simp
  · rw [decide_eq_false h]
    rw [beq_eq_false_iff_ne]
    intro e
    rcases take_min_pfx e with h' | h'
    · exact h (uvarint_pfx x y h')
    · exact h (uvarint_pfx y x h').symm

theorem zigzag_inj {x y : Int} (h : zigzag x = zigzag y) : x = y := by
  unfold zigzag at h
  split at h <;> split at h <;> omega

theorem prefix_nat (m n : Int) (hm : 0 ≤ m) (hn : 0 ≤ n) : ((uvarint m.toNat).take (min (uvarint m.toNat).length (uvarint n.toNat).length) == (uvarint n.toNat).take (min (uvarint m.toNat).length (uvarint n.toNat).length)) = (m == n) := by
  rw [prefix_uv]
  by_cases h : m = n
  · subst h; simp
  · rw [decide_eq_false (by omega)]
    simp [h]

theorem prefix_int (m n : Int) : ((uvarint (zigzag m)).take (min (uvarint (zigzag m)).length (uvarint (zigzag n)).length) == (uvarint (zigzag n)).take (min (uvarint (zigzag m)).length (uvarint (zigzag n)).length)) = (m == n) := by
  rw [prefix_uv]
  by_cases h : m = n
  · subst h; simp
  · rw [decide_eq_false (fun e => h (zigzag_inj e))]
    simp [h]

end Go.Proofs.Ytjpnhphnfbhpbaa
