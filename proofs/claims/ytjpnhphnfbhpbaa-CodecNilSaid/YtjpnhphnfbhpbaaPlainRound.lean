/- What is read is what was appended, and what was read is the encoding of the value: no program in sight. -/
import Derived.Test.YtjpnhphnfbhpbaaPlainOrder
set_option linter.unusedVariables false
namespace Go.Proofs.Ytjpnhphnfbhpbaa
open Go Go.Lib Go.RowKit

/-- A successful read has consumed the encoding of the value. -/
theorem rdFrom_unique : ∀ (l : List UInt8) (i acc v : Nat) (r : List UInt8), rdFrom i acc l = some (v, r) → ∃ m, v = acc + m * 2 ^ (7 * i) ∧ l = uvarint m ++ r ∧ (0 < i → 0 < m)
  | [], i, acc, v, r, h => by simp [rdFrom] at h
  | b :: t, i, acc, v, r, h => by
    have hb := b.toNat_lt
    by_cases h1 : i = 9 ∧ 1 < b.toNat
    · rw [rdFrom, if_pos h1] at h; cases h
    · by_cases h2 : b.toNat < 128
      · by_cases h3 : b.toNat = 0 ∧ 0 < i
        · rw [rdFrom, if_neg h1, if_pos h2, if_pos h3] at h; cases h
        · rw [rd_done h1 h2 h3] at h
          simp only [Option.some.injEq, Prod.mk.injEq] at h
          obtain ⟨rfl, rfl⟩ := h
          refine ⟨b.toNat, by rw [Nat.mod_eq_of_lt h2], ?_, fun hi => by omega⟩
          rw [uvarint_small h2]
          simp [Nat.toUInt8]
      · rw [rd_next h1 (by omega)] at h
        obtain ⟨m, hv, hl, hm⟩ := rdFrom_unique t (i + 1) _ v r h
        have hm := hm (by omega)
        refine ⟨b.toNat % 128 + 128 * m, ?_, ?_, fun _ => by omega⟩
        · rw [hv, pow7_succ, Nat.add_mul]
          have : m * (128 * 2 ^ (7 * i)) = 128 * m * 2 ^ (7 * i) := by rw [← Nat.mul_assoc, Nat.mul_comm m 128]
          omega
        · rw [uvarint_big (by omega : 128 ≤ b.toNat % 128 + 128 * m), hl, show (b.toNat % 128 + 128 * m) / 128 = m by omega, show (b.toNat % 128 + 128 * m) % 128 + 128 = b.toNat by omega]
          simp [Nat.toUInt8]

theorem rdU_unique {l r : List UInt8} {v : Nat} (h : rdU (some l) = some (v, r)) : l = uvarint v ++ r := by
  obtain ⟨m, hv, hl, _⟩ := rdFrom_unique l 0 0 v r h
  simp at hv
  subst hv
  exact hl

/-- An encoding is read back, whatever follows it. -/
theorem rdFrom_round : ∀ (m i acc : Nat) (r : List UInt8), i ≤ 9 → m * 2 ^ (7 * i) < 18446744073709551616 → (0 < i → 0 < m) → rdFrom i acc (uvarint m ++ r) = some (acc + m * 2 ^ (7 * i), r) := by
  intro m
  induction m using Nat.strongRecOn with
  | ind m ih =>
    intro i acc r hi hm h0
    have h9 : i = 9 → m ≤ 1 := by
      rintro rfl
      have e : 2 ^ (7 * 9) = 9223372036854775808 := by decide
      rw [e] at hm
      omega
    by_cases hlt : m < 128
    · rw [uvarint_small hlt, List.singleton_append]
      have hbm := u8_lt (x := m) (by omega)
      rw [rd_done (by rw [hbm]; rintro ⟨h, h'⟩; have := h9 h; omega) (by rw [hbm]; exact hlt) (by rw [hbm]; rintro ⟨h, h'⟩; have := h0 h'; omega), hbm, Nat.mod_eq_of_lt hlt]
    · have hi9 : i ≠ 9 := fun h => by have := h9 h; omega
      rw [uvarint_big (by omega : 128 ≤ m), List.cons_append]
      have hbm := u8_lt (x := m % 128 + 128) (by omega)
      rw [rd_next (by rintro ⟨h, _⟩; exact hi9 h) (by rw [hbm]; omega), hbm]
      have hmul : m / 128 * 2 ^ (7 * (i + 1)) + m % 128 * 2 ^ (7 * i) = m * 2 ^ (7 * i) := by
        rw [pow7_succ, ← Nat.mul_assoc, ← Nat.add_mul, Nat.mul_comm (m / 128) 128, Nat.div_add_mod]
      rw [ih (m / 128) (by omega) (i + 1) _ r (by omega) (by omega) (by omega), show (m % 128 + 128) % 128 = m % 128 by omega]
      simp only [Option.some.injEq, Prod.mk.injEq, and_true]
      omega

theorem rdU_round {m : Nat} (r : List UInt8) (hm : m < 18446744073709551616) : rdU (some (uvarint m ++ r)) = some (m, r) := by
  show rdFrom 0 0 (uvarint m ++ r) = _
  rw [rdFrom_round m 0 0 r (by omega) (by simpa using hm) (by omega)]
  simp

theorem unzig_zigzag (k : Int) : unzig (zigzag k) = k := by
  unfold unzig zigzag
  split <;> split <;> omega

theorem zigzag_unzig (n : Nat) : zigzag (unzig n) = n := by
  unfold unzig zigzag
  split <;> split <;> omega

theorem bR_round {x : List UInt8} (r : List UInt8) (hx : x.length < 18446744073709551616) : bR (some (uvarint x.length ++ (x ++ r))) = some (x, r) := by
  unfold bR
  rw [rdU_round _ hx]
  simp

theorem bR_unique {l x r : List UInt8} (h : bR (some l) = some (x, r)) : l = uvarint x.length ++ (x ++ r) := by
  unfold bR at h
  rcases hu : rdU (some l) with _ | ⟨v, t⟩
  · rw [hu] at h; cases h
  · rw [hu] at h
    simp only at h
    split at h
    · rename_i hle
      simp only [Option.some.injEq, Prod.mk.injEq] at h
      obtain ⟨rfl, rfl⟩ := h
      rw [rdU_unique hu, List.length_take, Nat.min_eq_left hle, List.take_append_drop]
    · cases h

theorem kR_round {x : List UInt8} (r : List UInt8) (hx : x.length = 8) : kR (some (x ++ r)) = some (x, r) := by
  show (if 8 ≤ (x ++ r).length then some ((x ++ r).take 8, (x ++ r).drop 8) else none) = _
  rw [if_pos (by rw [List.length_append]; omega), ← hx, List.take_left, List.drop_left]

end Go.Proofs.Ytjpnhphnfbhpbaa
