/- The contract of the codec law's 'read': both readers do the same. -/
import Derived.Test.YtjpnhphnfbhpbaaCodecGK
import Derived.Test.YtjpnhphnfbhpbaaCodecEI
import Derived.Test.YtjpnhphnfbhpbaaCodecE
import Derived.Test.YtjpnhphnfbhpbaaCodecKR
import Derived.Test.YtjpnhphnfbhpbaaEqBlock
set_option linter.unusedVariables false
namespace Go.Proofs.Ytjpnhphnfbhpbaa
open Go Go.RowKit Go.Lib

/-- What a read of a kind leaves. -/
def rS (s : Option (List UInt8)) (k : Nat) : Option (List UInt8) :=
  if k % 5 = 0 then uS s else if k % 5 = 1 then uS s else if k % 5 = 2 then bS s else if k % 5 = 3 then kS s else cS s k

/-- Two blocks are written, and new memory. -/
structure Two (w w' : World) (q q' : Nat) : Prop where
  os : w'.os = w.os
  tape : w'.tape = w.tape
  output : w'.output = w.output
  size : w.heap.size ≤ w'.heap.size
  block : ∀ k, k < w.heap.size → k ≠ q → k ≠ q' → w'.heap[k]? = w.heap[k]?

theorem Two.of {w w1 w2 : World} {q q' : Nat} (h : w.grownBy w1 (some q)) (h' : w1.grownBy w2 (some q')) : Two w w2 q q' :=
  ⟨h'.os.trans h.os, h'.tape.trans h.tape, h'.output.trans h.output, Nat.le_trans h.size h'.size, fun k hk h1 h2 => by
    rw [h'.block k (Nat.lt_of_lt_of_le hk h.size) (by simp; omega), h.block k hk (by simp; omega)]⟩
theorem Two.below {w w1 w2 : World} {q q' : Nat} (h : Two w w1 q q') (h' : Below w1.heap.size w1 w2) : Two w w2 q q' :=
  ⟨h'.os.trans h.os, h'.tape.trans h.tape, h'.output.trans h.output, Nat.le_trans h.size h'.size, fun k hk h1 h2 => by
    rw [h'.block k (Nat.lt_of_lt_of_le hk h.size), h.block k hk h1 h2]⟩

theorem kV_len (s : Option (List UInt8)) : (kV s).length = 8 := by
  unfold kV
  split
  · rename_i p hp
    cases s with
    | none => simp [kR] at hp
    | some l =>
      by_cases h8 : 8 ≤ l.length
      · simp only [kR, if_pos h8, Option.some.injEq] at hp
        rw [← hp]
        simp only [List.length_take]
        omega
      · simp [kR, h8] at hp
  · rfl

set_option maxRecDepth 100000 in
set_option maxHeartbeats 1600000 in
theorem read09_any (lo hi q lo' hi' q' : Nat) (s : Option (List UInt8)) (k : UInt8) (w : World) (h : Rdr w 61 lo hi q s) (h' : Rdr w 64 lo' hi' q' s) (hd : hi ≤ lo') :
    Calls Try.prog 29 #[.pointer (some ⟨q, 0, none⟩), .pointer (some ⟨q', 0, none⟩), .int .u8 (k.toNat : Int)] w fun e w' => e = .returned (.bool true) ∧ Rdr w' 61 lo hi q (rS s k.toNat) ∧ Rdr w' 64 lo' hi' q' (rS s k.toNat) ∧ Two w w' q q' := by
  have hk := k.toNat_lt
  have h1 := h.lt_hi
  have h2 := h'.lo_le
  have h3 := h'.hi_le
  have h4 := h'.lt_hi
  by_cases k0 : k.toNat % 5 = 0
  · have kI : (k.toNat : Int) % 5 = 0 := by omega
    go_enter Try.func29, Try.ntmps29
    go_wp2_with fail
    refine (uint_any _ _ _ _ _ h).mono ?_
    rintro e w1 ⟨rfl, hr, hg⟩
    have hr' := h'.other hg (.inl (by omega))
    go_wp2_with fail
    refine (refUint_any _ _ _ _ _ hr').mono ?_
    rintro e w2 ⟨rfl, hs, hg2⟩
    go_wp2
    go_ret
    rw [rS, if_pos k0]
    exact ⟨rfl, hr.other hg2 (.inr (by omega)), hs, Two.of hg hg2⟩
  by_cases k1 : k.toNat % 5 = 1
  · have kI : (k.toNat : Int) % 5 = 1 := by omega
    go_enter Try.func29, Try.ntmps29
    go_wp2_with fail
    refine (int_any _ _ _ _ _ h).mono ?_
    rintro e w1 ⟨rfl, hr, hg⟩
    have hr' := h'.other hg (.inl (by omega))
    go_wp2_with fail
    refine (refInt_any _ _ _ _ _ hr').mono ?_
    rintro e w2 ⟨rfl, hs, hg2⟩
    go_wp2
    go_ret
    rw [rS, if_neg k0, if_pos k1]
    exact ⟨rfl, hr.other hg2 (.inr (by omega)), hs, Two.of hg hg2⟩
  by_cases k2 : k.toNat % 5 = 2
  · have kI : (k.toNat : Int) % 5 = 2 := by omega
    go_enter Try.func29, Try.ntmps29
    go_wp2_with fail
    refine (bytes_any _ _ _ _ _ h).mono ?_
    rintro e w1 ⟨a1, n1, c1, rfl, s1, in1, hr, hg⟩
    have hr' := h'.other hg (.inl (by omega))
    have hh1 := hr.hi_le
    go_wp2_with fail
    refine (refBytes_any _ _ _ _ _ hr').mono ?_
    rintro e w2 ⟨a2, n2, c2, rfl, s2, hs, hg2⟩
    have s1' := s1.keep (w' := w2) (fun kk hkk ad had e => hg2.block kk hkk (by intro e'; simp only [Option.some.injEq] at e'; have := in1 ad had; omega))
    have x1 := Sl.run_str (P := Try.prog) s1' 25 5 9 Try.underlying25 Try.underlying5 Try.underlying9
    have x2 := Sl.run_str (P := Try.prog) (Sl.of_owns s2 (bv_one _)).2 25 5 9 Try.underlying25 Try.underlying5 Try.underlying9
    go_wp2
    go_ret
    rw [rS, if_neg k0, if_neg k1, if_pos k2]
    exact ⟨rfl, hr.other hg2 (.inr (by omega)), hs, Two.of hg hg2⟩
  by_cases k3 : k.toNat % 5 = 3
  · have kI : (k.toNat : Int) % 5 = 3 := by omega
    obtain ⟨x0, x1, x2, x3, x4, x5, x6, x7, hx8⟩ := list8 (kV_len s)
    have HX := Lib.hid hx8
    clear hx8
    go_enter Try.func29, Try.ntmps29
    go_wp2_with fail
    refine (block_any _ _ _ _ _ h).mono ?_
    rintro e w1 ⟨rfl, hr, hg⟩
    rw [HX.out]
    have hr' := h'.other hg (.inl (by omega))
    go_wp2_with (with_reducible refine W_stop_store 31 ?_)
    have hcellA : (w1.alloc (.cells #[.int .u8 0, .int .u8 0, .int .u8 0, .int .u8 0, .int .u8 0, .int .u8 0, .int .u8 0, .int .u8 0] 31)).heap[w1.heap.size]? = some (.cells #[.int .u8 0, .int .u8 0, .int .u8 0, .int .u8 0, .int .u8 0, .int .u8 0, .int .u8 0, .int .u8 0] 31 (0, 0)) := heap_alloc_new _ _
    refine Lib.hid (W_store_row 31 w1.heap.size (bv [x0, x1, x2, x3, x4, x5, x6, x7]).toArray 31 _ rfl rfl hcellA (by kernel_rfl) rfl (all_oneCell_toArray (bv_one _)) ?_)
    have hrowA := setRow_at (cells := (bv [x0, x1, x2, x3, x4, x5, x6, x7]).toArray) hcellA
    have hbA := below_setRow ((Below.refl w1.heap.size w1).alloc (Nat.le_refl _) (.cells #[.int .u8 0, .int .u8 0, .int .u8 0, .int .u8 0, .int .u8 0, .int .u8 0, .int .u8 0, .int .u8 0] 31)) (Nat.le_refl w1.heap.size) (bv [x0, x1, x2, x3, x4, x5, x6, x7]).toArray
    obtain ⟨w2, hwA⟩ : ∃ w2, w2 = ((w1.alloc (.cells #[.int .u8 0, .int .u8 0, .int .u8 0, .int .u8 0, .int .u8 0, .int .u8 0, .int .u8 0, .int .u8 0] 31)).setRow w1.heap.size (bv [x0, x1, x2, x3, x4, x5, x6, x7]).toArray) := ⟨_, rfl⟩
    rw [← hwA] at hrowA hbA ⊢
    clear hwA hcellA
    have hr2 := hr.below hbA hr.hi_le
    have hr2' := hr'.below hbA hr'.hi_le
    have sz1 := hg.size
    have szA := hbA.size
    go_wp2_with fail
    refine (refBlock_any _ _ _ _ _ hr2').mono ?_
    rintro e w3 ⟨rfl, hs, hg2⟩
    rw [HX.out]
    have hr3 := hr2.other hg2 (.inr (by omega))
    have hr2hi := hr.hi_le
    have hs1 : w1.heap.size < w2.heap.size := (Array.getElem?_eq_some_iff.1 hrowA).1
    have hrowA := hrowA
    rw [← hg2.block _ hs1 (by simp only [ne_eq, Option.some.injEq]; omega)] at hrowA
    go_wp2_with (with_reducible refine W_stop_store 31 ?_)
    have hcellB : (w3.alloc (.cells #[.int .u8 0, .int .u8 0, .int .u8 0, .int .u8 0, .int .u8 0, .int .u8 0, .int .u8 0, .int .u8 0] 31)).heap[w3.heap.size]? = some (.cells #[.int .u8 0, .int .u8 0, .int .u8 0, .int .u8 0, .int .u8 0, .int .u8 0, .int .u8 0, .int .u8 0] 31 (0, 0)) := heap_alloc_new _ _
    refine Lib.hid (W_store_row 31 w3.heap.size (bv [x0, x1, x2, x3, x4, x5, x6, x7]).toArray 31 _ rfl rfl hcellB (by kernel_rfl) rfl (all_oneCell_toArray (bv_one _)) ?_)
    have hrowB := setRow_at (cells := (bv [x0, x1, x2, x3, x4, x5, x6, x7]).toArray) hcellB
    have hbB := below_setRow ((Below.refl w3.heap.size w3).alloc (Nat.le_refl _) (.cells #[.int .u8 0, .int .u8 0, .int .u8 0, .int .u8 0, .int .u8 0, .int .u8 0, .int .u8 0, .int .u8 0] 31)) (Nat.le_refl w3.heap.size) (bv [x0, x1, x2, x3, x4, x5, x6, x7]).toArray
    obtain ⟨w4, hwB⟩ : ∃ w4, w4 = ((w3.alloc (.cells #[.int .u8 0, .int .u8 0, .int .u8 0, .int .u8 0, .int .u8 0, .int .u8 0, .int .u8 0, .int .u8 0] 31)).setRow w3.heap.size (bv [x0, x1, x2, x3, x4, x5, x6, x7]).toArray) := ⟨_, rfl⟩
    rw [← hwB] at hrowB hbB ⊢
    clear hwB hcellB
    have hsz3 := hg2.size
    rw [← hbB.block _ (by omega)] at hrowA
    have hr4 := hr3.below hbB hr3.hi_le
    have hs4 := hs.below hbB hs.hi_le
    have heq := eq_block_refl x0 x1 x2 x3 x4 x5 x6 x7 w4
    go_wp2_with (with_reducible refine W_stop_load 31 ?_)
    refine Lib.hid (W_load_row 31 w1.heap.size 31 (bv [x0, x1, x2, x3, x4, x5, x6, x7]).toArray _ rfl hrowA Try.underlying31 rfl (by kernel_rfl) ?_)
    refine W_load_row 31 w3.heap.size 31 (bv [x0, x1, x2, x3, x4, x5, x6, x7]).toArray _ rfl hrowB Try.underlying31 rfl (by kernel_rfl) ?_
    go_wp2
    go_ret
    rw [rS, if_neg k0, if_neg k1, if_neg k2, if_pos k3]
    refine ⟨rfl, hr4, hs4, ?_⟩
    exact (Two.of (grownBy_trans hg (grownBy_below hbA)) hg2).below hbB
  · have kI : (k.toNat : Int) % 5 = 4 := by omega
    go_enter Try.func29, Try.ntmps29
    go_wp2_with fail
    refine (count_any _ _ _ _ _ _ h (by omega) (by omega)).mono ?_
    rintro e w1 ⟨rfl, hr, hg⟩
    have hr' := h'.other hg (.inl (by omega))
    go_wp2_with fail
    refine (refCount_any _ _ _ _ _ _ hr' (by omega) (by omega)).mono ?_
    rintro e w2 ⟨rfl, hs, hg2⟩
    go_wp2
    go_ret
    rw [rS, if_neg k0, if_neg k1, if_neg k2, if_neg k3]
    exact ⟨rfl, hr.other hg2 (.inr (by omega)), hs, Two.of hg hg2⟩

end Go.Proofs.Ytjpnhphnfbhpbaa
