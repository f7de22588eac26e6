/- Labels: numbers, the sealed bytes of both. -/
import Derived.Test.YtjjknjkpkoeelaaCodecB
import Derived.Test.YtjjknjkpkoeelaaCrc
import Derived.Test.YtjjknjkpkoeelaaLin
set_option linter.unusedVariables false
set_option linter.unusedSimpArgs false
namespace Go.Proofs.Ytjjknjkpkoeelaa
open Go Go.RowKit Go.Lib

/-- Natural numbers, one behind the other. -/
def numsL (ns : List Nat) : List UInt8 := ns.flatMap uvarint
def uc (ns : List Nat) : List Value := ns.map fun (n : Nat) => Value.int .u64 (n : Int)
theorem uc_length (ns : List Nat) : (uc ns).length = ns.length := by simp [uc]
theorem numsL_length {ns : List Nat} (h : ∀ x ∈ ns, x < 18446744073709551616) : (numsL ns).length ≤ 10 * ns.length := by
  induction ns with
  | nil => simp [numsL]
  | cons x ns ih =>
    have h1 := uvarint_length64 (h x (by simp))
    have h2 := ih fun y hy => h y (by simp [hy])
    simp only [numsL, List.flatMap_cons, List.length_append, List.length_cons] at *
    omega
theorem numsL_take {ns : List Nat} {i : Nat} (h : i < ns.length) : numsL (ns.take (i + 1)) = numsL (ns.take i) ++ uvarint ns[i] := by
  unfold numsL
  rw [List.take_succ_eq_append_getElem h, List.flatMap_append]
  simp only [List.flatMap_cons, List.flatMap_nil, List.append_nil]

set_option maxRecDepth 100000 in
set_option maxHeartbeats 800000 in
theorem numbers_any (a : Option Addr) (n c : Nat) (l : List UInt8) (a2 : Option Addr) (n2 c2 : Nat) (ns : List Nat) (w : World) (h : Sl w 1 a n c (bv l)) (h2 : Sl w 1 a2 n2 c2 (uc ns)) (hns : ∀ x ∈ ns, x < 18446744073709551616) (hl : l.length + 10 * ns.length ≤ 1000000) :
    Calls Try.prog 32 #[.slice a n c, .slice a2 n2 c2] w fun e w' => ∃ a' n' c', e = .returned (.slice a' n' c') ∧ Sl w' 1 a' n' c' (bv (l ++ numsL ns)) ∧ Below w.heap.size w w' := by
  have hn2 : n2 = ns.length := by have := h2.len; rw [uc_length] at this; omega
  have hcap2 := h2.cap
  have hn26 : n2 ≤ 1000000 := by omega
  have HN := Lib.hid hn2
  have H2 := Lib.hid h2
  clear h2 hn2
  go_enter Try.func32, Try.ntmps32
  go_wp2
  go_loopw [0, 9] (fun bvv iv wr => ∃ (i : Nat) (a1 : Option Addr) (n1 c1 : Nat), iv = .int .i64 (i : Int) ∧ i ≤ n2 ∧ bvv = .slice a1 n1 c1 ∧ Hid (Sl wr 1 a1 n1 c1 (bv (l ++ numsL (ns.take i)))) ∧ Hid (Below w.heap.size w wr)) (fun _ iv _ => n2 - (intOf iv).toNat)
  case atStart => exact ⟨0, a, n, c, rfl, by omega, rfl, Lib.hid (by simpa [numsL] using h), Lib.hid (Below.refl _ _)⟩
  case round =>
    clear h
    obtain ⟨i, a1, n1, c1, rfl, hin, rfl, hs1, hB⟩ := hrel
    by_cases hi : i < n2
    · have hiI : (i : Int) < n2 := by omega
      have hi0 : (0 : Int) ≤ (i : Int) := by omega
      have hik : i < ns.length := by have := HN.out; omega
      obtain ⟨b, off, ha, hcell⟩ := (H2.out.below hB.out).at (k := i) (by rw [uc_length]; exact hik)
      subst ha
      have hc := hcell i (by rw [uc_length]; exact hik)
      simp only [uc, List.getElem_map] at hc
      clear hcell
      have hx : ns[i] < 18446744073709551616 := hns _ (List.getElem_mem hik)
      have hlen : (l ++ numsL (ns.take i)).length ≤ 1000000 := by
        have h1 := numsL_length (ns := ns.take i) fun x hx => hns x (List.mem_of_mem_take hx)
        rw [List.length_take] at h1
        rw [List.length_append]
        omega
      have HL := Lib.hid hlen
      have HX := Lib.hid hx
      clear hlen hx
      go_wp2_with (go_at_call 54; refine (appendUint_any a1 n1 c1 (l ++ numsL (ns.take i)) _ _ hs1.out HL.out (by omega) (by have := HX.out; omega)).mono ?_; rintro e w1 ⟨a3, n3, c3, rfl, hown, hb⟩; rw [Int.toNat_natCast, List.append_assoc, ← numsL_take hik] at hown; have hs3 := Lib.hid (Sl.of_owns hown (bv_one _)).2; have hB3 := Lib.hid (hB.out.trans (hb.mono hB.out.size)); clear hb hown)
      go_roundw
      case rel => exact ⟨i + 1, a3, n3, c3, by go_num, by omega, rfl, hs3, hB3⟩
      case measure => simp [intOf]; omega
    · have hiI : ¬ (i : Int) < n2 := by omega
      obtain rfl : n2 = i := by omega
      have hs1' := hs1.out
      rw [List.take_of_length_le (by have := HN.out; omega)] at hs1'
      have HS := Lib.hid hs1'
      clear hs1' hs1
      go_wp2
      go_ret
      exact ⟨a1, n1, c1, rfl, HS.out, hB.out⟩

set_option maxRecDepth 100000 in
set_option maxHeartbeats 800000 in
theorem sealed_any (base : Nat) (a : Option Addr) (n c : Nat) (l : List UInt8) (w : World) (h : w.ownsRow base 5 1 (.slice a n c) n (bv l)) (hbase : base ≤ w.heap.size) (hl : l.length ≤ 1000000) :
    Calls Try.prog 33 #[.slice a n c] w fun e w' => ∃ a' n' c', e = .returned (.slice a' n' c') ∧ w'.ownsRow base 5 1 (.slice a' n' c') n' (bv (sealL l)) ∧ Below base w w' := by
  have hs := (Sl.of_owns h (bv_one _)).2
  have hnl : n = l.length := by have := hs.len; rw [bv_length] at this; omega
  have hc0 := (crc_u64 l).1
  have hc1 := (crc_u64 l).2
  obtain ⟨x, hx⟩ : ∃ x, x = crc l := ⟨_, rfl⟩
  have HN := Lib.hid hnl
  clear hnl
  go_enter Try.func33, Try.ntmps33
  go_wp2_with (go_at_call 55; refine (sum_any a n c l _ hs hl).mono ?_; rintro e w1 ⟨rfl, rfl⟩; rw [← hx])
  have hn6 : n ≤ 1000000 := by have := HN.out; omega
  rw [← hx] at hc0 hc1
  have HX := Lib.hid hx
  clear hx hs
  go_loopw [0, 4] (fun bvv iv wr => ∃ (i : Nat) (a1 : Option Addr) (n1 c1 : Nat), iv = .int .i64 (56 - 8 * (i : Int)) ∧ i ≤ 8 ∧ bvv = .slice a1 n1 c1 ∧ n1 ≤ 1000010 ∧ Hid (n1 = n + i) ∧ Hid (wr.ownsRow base 5 1 (.slice a1 n1 c1) n1 (bv (l ++ (List.range i).map (be8 x)))) ∧ Hid (Below base w wr) ∧ base ≤ wr.heap.size) (fun _ iv _ => (intOf iv + 8).toNat)
  case atStart => exact ⟨0, a, n, c, rfl, by omega, rfl, by omega, Lib.hid rfl, Lib.hid (by simpa using h), Lib.hid (Below.refl _ _), hbase⟩
  case round =>
    clear h
    obtain ⟨i, a1, n1, c1, rfl, hin, rfl, hn1, hne, hs1, hB, hbs⟩ := hrel
    by_cases hi : i < 8
    · obtain ⟨p, hp⟩ : ∃ p, p = l ++ (List.range i).map (be8 x) := ⟨_, rfl⟩
      obtain ⟨b, hb⟩ : ∃ b : UInt8, b = be8 x i := ⟨_, rfl⟩
      have hnext : Hid (p ++ [b] = l ++ (List.range (i + 1)).map (be8 x)) := by rw [hp, hb, List.range_succ]; exact Lib.hid (by simp)
      have hcell := be8_cell hc0 hc1 i
      rw [← hb] at hcell
      rw [← hp] at hs1
      have hs2 := hs1.out
      clear hp hb hs1
      obtain ⟨hi0, hq⟩ | ⟨hi0, hq⟩ | ⟨hi0, hq⟩ | ⟨hi0, hq⟩ | ⟨hi0, hq⟩ | ⟨hi0, hq⟩ | ⟨hi0, hq⟩ | ⟨hi0, hq⟩ : (i = 0 ∧ 56 - 8 * (i : Int) = 56) ∨ (i = 1 ∧ 56 - 8 * (i : Int) = 48) ∨ (i = 2 ∧ 56 - 8 * (i : Int) = 40) ∨ (i = 3 ∧ 56 - 8 * (i : Int) = 32) ∨ (i = 4 ∧ 56 - 8 * (i : Int) = 24) ∨ (i = 5 ∧ 56 - 8 * (i : Int) = 16) ∨ (i = 6 ∧ 56 - 8 * (i : Int) = 8) ∨ (i = 7 ∧ 56 - 8 * (i : Int) = 0) := by omega
      all_goals
        rw [hi0] at hcell
        simp only [Nat.reduceMul, Nat.reduceSub, Int.reducePow, Int.ediv_one] at hcell
        rw [hq]
        clear hq
        have HC := Lib.hid hcell
        clear hcell
        go_wp2_with (at_builtin; refine wpList_appendB _ rfl _ _ rfl base _ n1 p rfl (hs2.alloc _) _ 1 1 [b] rfl (Sl.byte _ _ _ _ ?h0) ?h1 ?h2 ?h3)
        case h0 => rw [← HX.out]; exact HC.out
        case h1 => omega
        case h2 => simp; omega
        case h3 =>
          intro a2 c2 w2 hown2 hg2
          go_wp2
          go_roundw
          case rel => exact ⟨i + 1, a2, n1 + 1, c2, by go_num, by omega, rfl, by have := hne.out; omega, Lib.hid (by have := hne.out; omega), Lib.hid (by rw [← hnext.out]; exact hown2), Lib.hid ((hB.out.alloc hbs _).grown hg2 (by simp; omega) (fun j hj => (hs2.lt j hj).1)), by have := hg2.size; simp at this; omega⟩
          case measure => simp [intOf]
    · have hiI : (56 : Int) - 8 * (i : Int) < 0 := by omega
      obtain rfl : i = 8 := by omega
      go_wp2
      go_ret
      refine ⟨a1, n1, c1, rfl, ?_, hB.out⟩
      have := hs1.out
      rw [HX.out] at this
      exact this

end Go.Proofs.Ytjjknjkpkoeelaa
