/- Labels: a plain record, its cells, and both implementations of Valid. -/
import Derived.Test.YtgpfjinkmagelaaCfg
import Derived.Test.YtgpfjinkmagelaaSteps
import Derived.Test.YtgpfjinkmagelaaKit2
set_option linter.unusedVariables false
set_option linter.unusedSimpArgs false
namespace Go.Proofs.Ytgpfjinkmagelaa
open Go Go.RowKit Go.Lib

structure Lb where
  arr : Int
  dk : Int
  gen : Int
  prev : Int
  cd : Int
  cw : Int
  ct : Int
  cs : Int
  gr : Int
  gb : Int
  gt : Int
  gs : Int
  go : Int
  ca : Int
  cl : Int
  dead : List Bool
  blob : Int
  sum : Int
  root : Int

def Lb.agg (l : Lb) (ad : Option Addr) (nd c : Nat) : Value :=
  .agg #[.int .u64 l.arr, .int .i64 l.dk, .int .u64 l.gen, .int .u64 l.prev, .int .i64 l.cd, .int .i64 l.cw, .int .i64 l.ct, .int .i64 l.cs, .int .i64 l.gr, .int .i64 l.gb, .int .i64 l.gt, .int .i64 l.gs, .int .i64 l.go, .int .i64 l.ca, .int .i64 l.cl, .slice ad nd c, .int .i64 l.blob, .int .u64 l.sum, .int .u64 l.root]

/-- Bools as cells. -/
def bb (l : List Bool) : List Value := l.map .bool
theorem bb_length (l : List Bool) : (bb l).length = l.length := by simp [bb]
theorem bb_one (l : List Bool) : ∀ u ∈ bb l, u.oneCell' = true := by
  intro u hu
  obtain ⟨b, _, rfl⟩ := List.mem_map.1 hu
  rfl

/-- The numbers are of their kinds; Dead is not long. -/
structure Lb.ok (l : Lb) : Prop where
  arr0 : 0 ≤ l.arr
  arr1 : l.arr < 18446744073709551616
  dk0 : -9223372036854775808 ≤ l.dk
  dk1 : l.dk ≤ 9223372036854775807
  gen0 : 0 ≤ l.gen
  gen1 : l.gen < 18446744073709551616
  prev0 : 0 ≤ l.prev
  prev1 : l.prev < 18446744073709551616
  cd0 : -9223372036854775808 ≤ l.cd
  cd1 : l.cd ≤ 9223372036854775807
  ca0 : -9223372036854775808 ≤ l.ca
  ca1 : l.ca ≤ 9223372036854775807
  cl0 : -9223372036854775808 ≤ l.cl
  cl1 : l.cl ≤ 9223372036854775807
  blob0 : -9223372036854775808 ≤ l.blob
  blob1 : l.blob ≤ 9223372036854775807
  sum0 : 0 ≤ l.sum
  sum1 : l.sum < 18446744073709551616
  root0 : 0 ≤ l.root
  root1 : l.root < 18446744073709551616
  short : l.dead.length ≤ 1000000

def Lb.cfg (l : Lb) : Prop := cfgOk l.cd l.cw l.ct l.cs l.gr l.gb l.gt l.gs l.go l.ca l.cl
instance (l : Lb) : Decidable l.cfg := by unfold Lb.cfg; infer_instance
def Lb.valid (l : Lb) : Prop := l.cfg ∧ 0 ≤ l.dk ∧ l.dk < l.cd ∧ 1 ≤ l.gen ∧ l.gen < 4294967296 ∧ l.prev < l.gen ∧ (l.dead.length : Int) = l.cd ∧ l.dead.count true ≤ 3 ∧ l.dead[l.dk.toNat]? = some false ∧ 0 ≤ l.blob ∧ l.blob ≤ 1048576
instance (l : Lb) : Decidable l.valid := by unfold Lb.valid; infer_instance

theorem count_take {l : List Bool} {i : Nat} (h : i < l.length) : (l.take (i + 1)).count true = (l.take i).count true + (if l[i] = true then 1 else 0) := by
  rw [List.take_succ_eq_append_getElem h, List.count_append]
  congr 1
  cases l[i] <;> rfl

set_option maxRecDepth 100000 in
set_option maxHeartbeats 800000 in
theorem dead_any (l : Lb) (ad : Option Addr) (nd c : Nat) (w : World) (h : Sl w 1 ad nd c (bb l.dead)) (hs : l.dead.length ≤ 1000000) :
    Calls Try.prog 30 #[l.agg ad nd c] w fun e w' => e = .returned (.int .i64 (l.dead.count true : Int)) ∧ Below w.heap.size w w' := by
  have hlen := h.len
  rw [bb_length, Nat.mul_one] at hlen
  have hcap := h.cap
  have hn6 : nd ≤ 1000000 := by omega
  have HL := Lib.hid hlen
  have Hh := Lib.hid h
  clear hlen h
  unfold Lb.agg
  go_enter Try.func30, Try.ntmps30
  go_wp2_with fail
  have HB := Lib.hid ((Below.refl w.heap.size w).alloc (Nat.le_refl _) (.cells #[.int .u64 l.arr, .int .i64 l.dk, .int .u64 l.gen, .int .u64 l.prev, .int .i64 l.cd, .int .i64 l.cw, .int .i64 l.ct, .int .i64 l.cs, .int .i64 l.gr, .int .i64 l.gb, .int .i64 l.gt, .int .i64 l.gs, .int .i64 l.go, .int .i64 l.ca, .int .i64 l.cl, .slice ad nd c, .int .i64 l.blob, .int .u64 l.sum, .int .u64 l.root] 32))
  go_loopw [3, 9] (fun nv iv wr => ∃ (i : Nat), nv = .int .i64 (((l.dead.take i).count true : Nat) : Int) ∧ iv = .int .i64 (i : Int) ∧ i ≤ nd ∧ Hid (Below w.heap.size w wr)) (fun _ iv _ => nd - (intOf iv).toNat)
  case atStart => exact ⟨0, rfl, rfl, by omega, HB⟩
  case round =>
    obtain ⟨i, rfl, rfl, hin, hB⟩ := hrel
    by_cases hi : i < nd
    · have hiI : (i : Int) < nd := by omega
      have hi0 : (0 : Int) ≤ (i : Int) := by omega
      have hik : i < l.dead.length := by have := HL.out; omega
      have hct := List.count_le_length (a := true) (l := l.dead.take i)
      rw [List.length_take] at hct
      obtain ⟨b, off, ha, hcell⟩ := (Hh.out.below hB.out).at (k := i) (by rw [bb_length]; exact hik)
      subst ha
      have hc := hcell i (by rw [bb_length]; exact hik)
      simp only [bb, List.getElem_map] at hc
      have hnext := count_take hik
      clear hcell
      cases hbit : l.dead[i] with
      | true =>
        rw [hbit] at hc hnext
        have HN := Lib.hid hnext
        clear hnext hbit
        go_wp2
        go_roundw
        case rel => exact ⟨i + 1, by rw [HN.out]; simp, by go_num, by omega, hB⟩
        case measure => simp [intOf]; omega
      | false =>
        rw [hbit] at hc hnext
        have HN := Lib.hid hnext
        clear hnext hbit
        go_wp2
        go_roundw
        case rel => exact ⟨i + 1, by rw [HN.out]; simp, by go_num, by omega, hB⟩
        case measure => simp [intOf]; omega
    · have hiI : ¬ (i : Int) < nd := by omega
      obtain rfl : nd = i := by omega
      go_wp2
      go_ret
      rw [List.take_of_length_le (by have := HL.out; omega)]
      exact ⟨rfl, hB.out⟩

end Go.Proofs.Ytgpfjinkmagelaa
