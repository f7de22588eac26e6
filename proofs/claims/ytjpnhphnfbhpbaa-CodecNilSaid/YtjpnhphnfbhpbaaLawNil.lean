/- The walk of CodecNil. -/
import Derived.Test.YtjpnhphnfbhpbaaAwake09
import Derived.Test.YtjpnhphnfbhpbaaRead09
import Derived.Test.YtjpnhphnfbhpbaaCodecN
import Derived.Test.YtjpnhphnfbhpbaaCodecB
import Derived.Test.YtjpnhphnfbhpbaaPlainRound
import Derived.Test.YtjpnhphnfbhpbaaSteps
set_option linter.unusedVariables false
set_option linter.unusedSimpArgs false
namespace Go.Proofs.Ytjpnhphnfbhpbaa
open Go Go.RowKit Go.Lib

set_option maxRecDepth 100000 in
set_option maxHeartbeats 1600000 in
theorem read09_nil (lo' hi' q' : Nat) (k : UInt8) (w : World) (h' : Rdr w 64 lo' hi' q' (some [])) :
    Calls Try.prog 29 #[.pointer none, .pointer (some ⟨q', 0, none⟩), .int .u8 (k.toNat : Int)] w fun e w' => e = .returned (.bool true) ∧ w.grownBy w' (some q') := by
  have hk := k.toNat_lt
  have h2 := h'.lo_le
  have h3 := h'.hi_le
  have h4 := h'.lt_hi
  obtain ⟨u1, u2, u3⟩ := rdU_bad (s := some []) rfl
  have HU := Lib.hid (And.intro u1 u2)
  clear u1 u2 u3
  by_cases k0 : k.toNat % 5 = 0
  · have kI : (k.toNat : Int) % 5 = 0 := by omega
    go_enter Try.func29, Try.ntmps29
    go_wp2_with (first | (go_at_call 21; refine (uint_nil _).mono ?_; rintro e w1 ⟨rfl, rfl⟩) | (go_at_call 35; refine (refUint_any _ _ _ _ _ h').mono ?_; rintro e w2 ⟨rfl, hs, hg2⟩; rw [HU.out.1, HU.out.2]))
    go_ret
    exact ⟨rfl, hg2⟩
  by_cases k1 : k.toNat % 5 = 1
  · have kI : (k.toNat : Int) % 5 = 1 := by omega
    go_enter Try.func29, Try.ntmps29
    go_wp2_with (first | (go_at_call 22; refine (int_nil _).mono ?_; rintro e w1 ⟨rfl, rfl⟩) | (go_at_call 36; refine (refInt_any _ _ _ _ _ h').mono ?_; rintro e w2 ⟨rfl, hs, hg2⟩; rw [HU.out.1, HU.out.2, show unzig 0 = 0 from rfl]))
    go_ret
    exact ⟨rfl, hg2⟩
  by_cases k2 : k.toNat % 5 = 2
  · have kI : (k.toNat : Int) % 5 = 2 := by omega
    obtain ⟨b1, b2, b3⟩ := b_bad (s := some []) rfl
    have HB := Lib.hid (And.intro b1 b2)
    clear b1 b2 b3
    go_enter Try.func29, Try.ntmps29
    go_wp2_with (first | (go_at_call 23; refine (bytes_nil _).mono ?_; rintro e w1 ⟨rfl, rfl⟩))
    refine (refBytes_any _ _ _ _ _ h').mono ?_
    rintro e w2 ⟨a2, n2, c2, rfl, s2, hs, hg2⟩
    rw [HB.out.1] at s2
    rw [HB.out.2]
    have x1 := Sl.run_str (P := Try.prog) (l := []) (Sl.nilv w2 1) 25 5 9 Try.underlying25 Try.underlying5 Try.underlying9
    have x2 := Sl.run_str (P := Try.prog) (Sl.of_owns s2 (bv_one _)).2 25 5 9 Try.underlying25 Try.underlying5 Try.underlying9
    go_wp2
    go_ret
    exact ⟨rfl, hg2⟩
  by_cases k3 : k.toNat % 5 = 3
  · have kI : (k.toNat : Int) % 5 = 3 := by omega
    obtain ⟨b1, b2, b3⟩ := k_bad (s := some []) rfl
    have HB := Lib.hid (And.intro b1 b2)
    clear b1 b2 b3
    go_enter Try.func29, Try.ntmps29
    go_wp2_with fail
    refine (block_nil _).mono ?_
    rintro e w1 ⟨rfl, hg⟩
    have hr' := h'.below hg h'.hi_le
    go_wp2_with (with_reducible refine W_stop_store 31 ?_)
    have hcellA : (w1.alloc (.cells #[.int .u8 0, .int .u8 0, .int .u8 0, .int .u8 0, .int .u8 0, .int .u8 0, .int .u8 0, .int .u8 0] 31)).heap[w1.heap.size]? = some (.cells #[.int .u8 0, .int .u8 0, .int .u8 0, .int .u8 0, .int .u8 0, .int .u8 0, .int .u8 0, .int .u8 0] 31 (0, 0)) := heap_alloc_new _ _
    refine Lib.hid (W_store_row 31 w1.heap.size (bv [0, 0, 0, 0, 0, 0, 0, 0]).toArray 31 _ rfl rfl hcellA (by kernel_rfl) rfl (all_oneCell_toArray (bv_one _)) ?_)
    have hrowA := setRow_at (cells := (bv [0, 0, 0, 0, 0, 0, 0, 0]).toArray) hcellA
    have hbA := below_setRow ((Below.refl w1.heap.size w1).alloc (Nat.le_refl _) (.cells #[.int .u8 0, .int .u8 0, .int .u8 0, .int .u8 0, .int .u8 0, .int .u8 0, .int .u8 0, .int .u8 0] 31)) (Nat.le_refl w1.heap.size) (bv [0, 0, 0, 0, 0, 0, 0, 0]).toArray
    obtain ⟨w2, hwA⟩ : ∃ w2, w2 = ((w1.alloc (.cells #[.int .u8 0, .int .u8 0, .int .u8 0, .int .u8 0, .int .u8 0, .int .u8 0, .int .u8 0, .int .u8 0] 31)).setRow w1.heap.size (bv [0, 0, 0, 0, 0, 0, 0, 0]).toArray) := ⟨_, rfl⟩
    rw [← hwA] at hrowA hbA ⊢
    clear hwA hcellA
    have hr2' := hr'.below hbA hr'.hi_le
    have sz1 := hg.size
    have szA := hbA.size
    go_wp2_with fail
    refine (refBlock_any _ _ _ _ _ hr2').mono ?_
    rintro e w3 ⟨rfl, hs, hg2⟩
    rw [HB.out.1, HB.out.2]
    have hs1 : w1.heap.size < w2.heap.size := (Array.getElem?_eq_some_iff.1 hrowA).1
    have hrowA := hrowA
    rw [← hg2.block _ hs1 (by simp only [ne_eq, Option.some.injEq]; omega)] at hrowA
    go_wp2_with (with_reducible refine W_stop_store 31 ?_)
    have hcellB : (w3.alloc (.cells #[.int .u8 0, .int .u8 0, .int .u8 0, .int .u8 0, .int .u8 0, .int .u8 0, .int .u8 0, .int .u8 0] 31)).heap[w3.heap.size]? = some (.cells #[.int .u8 0, .int .u8 0, .int .u8 0, .int .u8 0, .int .u8 0, .int .u8 0, .int .u8 0, .int .u8 0] 31 (0, 0)) := heap_alloc_new _ _
    refine Lib.hid (W_store_row 31 w3.heap.size (bv [0, 0, 0, 0, 0, 0, 0, 0]).toArray 31 _ rfl rfl hcellB (by kernel_rfl) rfl (all_oneCell_toArray (bv_one _)) ?_)
    have hrowB := setRow_at (cells := (bv [0, 0, 0, 0, 0, 0, 0, 0]).toArray) hcellB
    have hbB := below_setRow ((Below.refl w3.heap.size w3).alloc (Nat.le_refl _) (.cells #[.int .u8 0, .int .u8 0, .int .u8 0, .int .u8 0, .int .u8 0, .int .u8 0, .int .u8 0, .int .u8 0] 31)) (Nat.le_refl w3.heap.size) (bv [0, 0, 0, 0, 0, 0, 0, 0]).toArray
    obtain ⟨w4, hwB⟩ : ∃ w4, w4 = ((w3.alloc (.cells #[.int .u8 0, .int .u8 0, .int .u8 0, .int .u8 0, .int .u8 0, .int .u8 0, .int .u8 0, .int .u8 0] 31)).setRow w3.heap.size (bv [0, 0, 0, 0, 0, 0, 0, 0]).toArray) := ⟨_, rfl⟩
    rw [← hwB] at hrowB hbB ⊢
    clear hwB hcellB
    have hsz3 := hg2.size
    rw [← hbB.block _ (by omega)] at hrowA
    have heq := eq_block_refl 0 0 0 0 0 0 0 0 w4
    go_wp2_with (with_reducible refine W_stop_load 31 ?_)
    refine Lib.hid (W_load_row 31 w1.heap.size 31 (bv [0, 0, 0, 0, 0, 0, 0, 0]).toArray _ rfl hrowA Try.underlying31 rfl (by kernel_rfl) ?_)
    refine W_load_row 31 w3.heap.size 31 (bv [0, 0, 0, 0, 0, 0, 0, 0]).toArray _ rfl hrowB Try.underlying31 rfl (by kernel_rfl) ?_
    go_wp2
    go_ret
    refine ⟨rfl, ?_⟩
    exact grownBy_trans (grownBy_trans (grownBy_below (hg.trans (hbA.mono sz1))) hg2) (grownBy_below hbB)
  · have kI : (k.toNat : Int) % 5 = 4 := by omega
    obtain ⟨b1, b2, b3⟩ := c_bad (s := some []) (m := (k.toNat : Int)) rfl
    have HB := Lib.hid (And.intro b1 b2)
    clear b1 b2 b3
    go_enter Try.func29, Try.ntmps29
    go_wp2_with (first | (go_at_call 25; refine (count_nil _ _).mono ?_; rintro e w1 ⟨rfl, rfl⟩) | (go_at_call 39; refine (refCount_any _ _ _ _ _ _ h' (by omega) (by omega)).mono ?_; rintro e w2 ⟨rfl, hs, hg2⟩; rw [HB.out.1, HB.out.2]))
    go_ret
    exact ⟨rfl, hg2⟩

set_option maxRecDepth 100000 in
set_option maxHeartbeats 1600000 in
theorem nil_walk (a : Option Addr) (n c : Nat) (l : List UInt8) (ak : Option Addr) (nk ck : Nat) (ks : List UInt8) (w : World) (h : Sl w 1 a n c (bv l)) (hks : Sl w 1 ak nk ck (bv ks)) :
    Calls Try.prog 9 #[.slice a n c, .slice ak nk ck] w fun e w' => e = .returned (.bool true) ∧ Below w.heap.size w w' := by
  have hlen := h.len
  have hlenk := hks.len
  rw [bv_length, Nat.mul_one] at hlen hlenk
  have HL := Lib.hid hlen
  have HK := Lib.hid hlenk
  have Hh := Lib.hid h
  have Hk := Lib.hid hks
  have hckap := hks.cap
  clear hlen hlenk h hks
  go_enter Try.func9, Try.ntmps9
  go_wp2_with fail
  refine (awake09 _).mono ?_
  rintro e w0 ⟨rfl, hb0⟩
  by_cases hbig : n > 100
  · have hbig' : (100 : Int) < n := by omega
    go_wp2
    go_ret
    exact ⟨rfl, hb0⟩
  have hbig' : ¬ (100 : Int) < n := by omega
  by_cases hbigk : nk > 10
  · have hbigk' : (10 : Int) < nk := by omega
    go_wp2
    go_ret
    exact ⟨rfl, hb0⟩
  have hbigk' : ¬ (10 : Int) < nk := by omega
  have hl6 : l.length ≤ 1000000 := by have := HL.out; omega
  have HB0 := Lib.hid hb0
  clear hb0
  go_wp2_with fail
  go_loopw [6] (fun iv wr => ∃ (i : Nat), iv = .int .i64 (i : Int) ∧ i ≤ nk ∧ Hid (Below w.heap.size w wr)) (fun iv _ => nk - (intOf iv).toNat)
  case atStart => exact ⟨0, rfl, by omega, HB0⟩
  case round =>
    obtain ⟨i, rfl, hin, hB⟩ := hrel
    by_cases hi' : i < nk
    · have hiI : (i : Int) < nk := by omega
      have hi0 : (0 : Int) ≤ (i : Int) := by omega
      have hik : i < ks.length := by have := HK.out; omega
      obtain ⟨b, off, ha, hcell⟩ := Hk.out.at (k := i) (by rw [bv_length]; exact hik)
      subst ha
      have hc := hcell i (by rw [bv_length]; exact hik)
      have hbs := World.block_lt_of_cell? w _ hc
      have hszw := hB.out.size
      have kc : ∀ x, Below w.heap.size w x → x.cell? ⟨b, off + i, none⟩ = some (.int .u8 (ks[i].toNat : Int)) := fun x hx => by
        have := below_cell hx hbs hc
        simpa only [bv, List.getElem_map] using this
      clear hc hcell
      go_wp2
      have hSw : Below wr.heap.size wr wr.drew := (Below.refl _ _).drew
      refine RestS.begin (fun x => Below wr.heap.size wr x) 18 (by kernel_rfl) (by kernel_rfl) ?_
      refine RestS.take 0 27 rfl (by kernel_rfl) (by kernel_rfl) (by kernel_rfl) (fun _ _ _ h => h) (by rfl) (by rfl) (by intro x hx; go_simp <;> with_reducible rfl) (by simp only [Act.put, List.setIfInBounds_toArray, List.set_cons_zero, List.set_cons_succ] <;> rfl) hSw ?_
      refine RestS.take 2 29 rfl (by kernel_rfl) (by kernel_rfl) (by kernel_rfl) (fun _ _ _ h => h) (by rfl) (by rfl) (by intro x hx; go_simp <;> with_reducible rfl) (by simp only [Act.put, List.setIfInBounds_toArray, List.set_cons_zero, List.set_cons_succ] <;> rfl) hSw ?_
      refine RestS.take 3 30 rfl (by kernel_rfl) (by kernel_rfl) (by kernel_rfl) (fun _ _ _ h => h) (by rfl) (by rfl) (by intro x hx; go_simp <;> with_reducible rfl) (by simp only [Act.put, List.setIfInBounds_toArray, List.set_cons_zero, List.set_cons_succ] <;> rfl) hSw ?_
      refine RestS.take 4 31 rfl (by kernel_rfl) (by kernel_rfl) (by kernel_rfl) (fun _ _ _ h => h) (by rfl) (by rfl) (by intro x hx; have hc := hiI; go_simp <;> with_reducible rfl) (by simp only [Act.put, List.setIfInBounds_toArray, List.set_cons_zero, List.set_cons_succ] <;> rfl) hSw ?_
      refine RestS.take 5 32 rfl (by kernel_rfl) (by kernel_rfl) (by kernel_rfl) (fun _ _ _ h => h) (by rfl) (by rfl) (by intro x hx; have hc := kc x (hB.out.trans (hx.mono hszw)); go_simp <;> with_reducible rfl) (by simp only [Act.put, List.setIfInBounds_toArray, List.set_cons_zero, List.set_cons_succ] <;> rfl) hSw ?_
      refine RestS.step 1 rfl (by kernel_rfl) (by rfl) (fun K hK => ?_)
      go_simp
      go_at_call 28
      refine (refNew_any none 0 0 [] _ (Sl.nilv _ _) (by decide)).mono ?_
      rintro e w5 ⟨q, rfl, r5, b5⟩
      have hq := r5.lo_le
      have hSw := hSw.trans (b5.mono hSw.size)
      refine hK.out _ _ hSw ?_
      clear hK K b5
      refine RestS.step 6 rfl (by kernel_rfl) (by rfl) (fun K hK => ?_)
      go_simp
      go_at_call 29
      refine (read09_nil _ _ q ks[i] _ r5).mono ?_
      rintro e w6 ⟨rfl, g6⟩
      have hSw := hSw.trans (Below.of_grown g6 (by simp at hq; exact hq) hSw.size)
      refine hK.out _ _ hSw ?_
      clear hK K g6
      refine RestS.take 7 34 rfl (by kernel_rfl) (by kernel_rfl) (by kernel_rfl) (fun _ _ _ h => h) (by rfl) (by rfl) (by intro x hx; go_simp <;> with_reducible rfl) (by simp only [Act.put, List.setIfInBounds_toArray, List.set_cons_zero, List.set_cons_succ] <;> rfl) hSw ?_
      refine RestS.take 8 35 rfl (by kernel_rfl) (by kernel_rfl) (by kernel_rfl) (fun _ _ _ h => h) (by rfl) (by rfl) (by intro x hx; go_simp <;> with_reducible rfl) (by simp only [Act.put, List.setIfInBounds_toArray, List.set_cons_zero, List.set_cons_succ] <;> rfl) hSw ?_
      refine RestS.take 9 36 rfl (by kernel_rfl) (by kernel_rfl) (by kernel_rfl) (fun _ _ _ h => h) (by rfl) (by rfl) (by intro x hx; go_simp <;> with_reducible rfl) (by simp only [Act.put, List.setIfInBounds_toArray, List.set_cons_zero, List.set_cons_succ] <;> rfl) hSw ?_
      refine RestS.step 10 rfl (by kernel_rfl) (by rfl) (fun K hK => ?_)
      go_simp
      go_at_call 24
      refine (left_nil _).mono ?_
      rintro e wz ⟨rfl, rfl⟩
      refine hK.out _ _ hSw ?_
      clear hK K
      refine RestS.take 11 38 rfl (by kernel_rfl) (by kernel_rfl) (by kernel_rfl) (fun _ _ _ h => h) (by rfl) (by rfl) (by intro x hx; go_simp <;> with_reducible rfl) (by simp only [Act.put, List.setIfInBounds_toArray, List.set_cons_zero, List.set_cons_succ] <;> rfl) hSw ?_
      refine RestS.take 12 39 rfl (by kernel_rfl) (by kernel_rfl) (by kernel_rfl) (fun _ _ _ h => h) (by rfl) (by rfl) (by intro x hx; go_simp <;> with_reducible rfl) (by simp only [Act.put, List.setIfInBounds_toArray, List.set_cons_zero, List.set_cons_succ] <;> rfl) hSw ?_
      refine RestS.take 13 40 rfl (by kernel_rfl) (by kernel_rfl) (by kernel_rfl) (fun _ _ _ h => h) (by rfl) (by rfl) (by intro x hx; go_simp <;> with_reducible rfl) (by simp only [Act.put, List.setIfInBounds_toArray, List.set_cons_zero, List.set_cons_succ] <;> rfl) hSw ?_
      refine RestS.take 14 41 rfl (by kernel_rfl) (by kernel_rfl) (by kernel_rfl) (fun _ _ _ h => h) (by rfl) (by rfl) (by intro x hx; go_simp <;> with_reducible rfl) (by simp only [Act.put, List.setIfInBounds_toArray, List.set_cons_zero, List.set_cons_succ] <;> rfl) hSw ?_
      refine RestS.step 15 rfl (by kernel_rfl) (by rfl) (fun K hK => ?_)
      go_simp
      go_at_call 26
      refine (done_nil _).mono ?_
      rintro e wz ⟨rfl, rfl⟩
      refine hK.out _ _ hSw ?_
      clear hK K
      refine RestS.take 16 43 rfl (by kernel_rfl) (by kernel_rfl) (by kernel_rfl) (fun _ _ _ h => h) (by rfl) (by rfl) (by intro x hx; go_simp <;> with_reducible rfl) (by simp only [Act.put, List.setIfInBounds_toArray, List.set_cons_zero, List.set_cons_succ] <;> rfl) hSw ?_
      refine RestS.take 17 44 rfl (by kernel_rfl) (by kernel_rfl) (by kernel_rfl) (fun _ _ _ h => h) (by rfl) (by rfl) (by intro x hx; go_simp <;> with_reducible rfl) (by simp only [Act.put, List.setIfInBounds_toArray, List.set_cons_zero, List.set_cons_succ] <;> rfl) hSw ?_
      refine wpAnyH_done (by kernel_rfl) ?_ _
      go_wp2
      go_roundw
      case rel => exact ⟨i + 1, by go_num, by omega, Lib.hid (hB.out.trans (hSw.mono hszw))⟩
      case measure => simp [intOf]; omega
    · have hiI : ¬ (i : Int) < nk := by omega
      have h10 := uvarint_length64 (x := l.length) (by omega)
      go_wp2_with fail
      refine (appendBytes_any none 0 0 [] a n c l _ (Sl.nilv _ _) (by decide) (Hh.out.below hB.out) hl6).mono ?_
      rintro e w1 ⟨ax, nx, cx, rfl, ho, hb1⟩
      rw [List.nil_append] at ho
      obtain ⟨_, hsx⟩ := Sl.of_owns ho (bv_one _)
      have hlx := hsx.len
      rw [bv_length, Nat.mul_one, List.length_append] at hlx
      have hpos := uvarint_pos l.length
      obtain ⟨g, cap, cur, hv, hbg, hrow, _, _, _, _⟩ : ∃ g cap cur, (Value.slice ax nx cx) = .slice (some ⟨g, 0, none⟩) nx cap ∧ wr.heap.size ≤ g ∧ w1.heap[g]? = some (.cells cur 5 (0, 0)) ∧ nx ≤ cap ∧ cap ≤ maxLen ∧ cur.size = cap * 1 ∧ cur.toList.take (nx * 1) = (bv (uvarint l.length ++ l)) := by
        rcases ho.2 with ⟨_, h0⟩ | h
        · omega
        · exact h
      simp only [Value.slice.injEq, true_and] at hv
      obtain ⟨rfl, rfl⟩ := hv
      obtain ⟨m, rfl⟩ : ∃ m, nx = m + 1 := ⟨nx - 1, by omega⟩
      have hml : m < (bv (uvarint l.length ++ l)).length := by rw [bv_length, List.length_append]; omega
      obtain ⟨b0, off0, ha0, hcell⟩ := hsx.at (k := m) hml
      obtain ⟨rfl, rfl⟩ : g = b0 ∧ 0 = off0 := by simpa using ha0
      have hcm := hcell m hml
      obtain ⟨v0, hv0⟩ : ∃ v0 : UInt8, (bv (uvarint l.length ++ l))[m]? = some (.int .u8 (v0.toNat : Int)) := ⟨_, bv_get _ _ (by simpa [bv_length] using hml)⟩
      rw [List.getElem?_eq_getElem hml] at hv0
      rw [Option.some.inj hv0, Nat.zero_add] at hcm
      have HSX := Lib.hid hsx
      have hg1 : g < w1.heap.size := (Array.getElem?_eq_some_iff.1 hrow).1
      have hcapx := hsx.cap
      have HROW := Lib.hid hrow
      have HCM := Lib.hid hcm
      have hB1 := Lib.hid (hB.out.trans (hb1.mono hB.out.size))
      have hwr := hB.out.size
      clear hcell hsx hv0 ho ha0 hrow hcm hb1 hml hB HB0
      go_wp2_with fail
      refine (new_any (some ⟨g, 0, none⟩) (m + 1) cx _ _ HSX.out (by have := HL.out; rw [List.length_append]; omega)).mono ?_
      rintro e w2 ⟨q, rfl, R, hb2⟩
      have hq := R.lo_le
      have hlt := R.lt_hi
      have h2 := hb2.size
      have hcr := below_cell hb2 hg1 HCM.out
      have hro := HROW.out
      rw [← hb2.block _ hg1] at hro
      have fr := frozen_of_row w2 g m _ _ hro
      have HR := Lib.hid R
      have hB2 := Lib.hid (hB1.out.trans (hb2.mono hB1.out.size))
      have s1 := hB1.out.size
      clear hro R hb2 hB1 HSX HROW HCM
      have hms : IntKind.i64.wrap ((m : Int) + 1 - 1) = (m : Int) := by
        rw [IntWalk.i64_left, wrap64]; omega
      have hm0 : (0 : Int) ≤ (m : Int) := by omega
      have hm1 : (m : Int) < (m : Int) + 1 := by omega
      go_wp2_with fail
      have hg3 := grownBy_setCell w2 g m (.int .u8 (((v0.toNat : Int) + 1) % 256))
      have hR3 := HR.out.other hg3 (.inl hg1)
      have hB3 := hB2.out.trans (Below.of_grown hg3 (by omega) hB2.out.size)
      have hrd : bR (some (uvarint l.length ++ l)) = some (l, []) := by
        have := bR_round (x := l) [] (by have := HL.out; omega)
        rwa [List.append_nil] at this
      obtain ⟨e1, e2, e3⟩ := b_ok hrd
      refine (bytes_any _ _ _ _ _ hR3).mono ?_
      rintro e w4 ⟨ar, nr, cr, rfl, sr, ins, R4, g4⟩
      rw [e2]
      rw [e1] at sr
      have hB4 := hB3.trans (Below.of_grown g4 (by omega) hB3.size)
      have x1 := Sl.run_str (P := Try.prog) sr 25 5 9 Try.underlying25 Try.underlying5 Try.underlying9
      have x2 := Sl.run_str (P := Try.prog) (Hh.out.below hB4) 25 5 9 Try.underlying25 Try.underlying5 Try.underlying9
      have HB4 := Lib.hid hB4
      clear hg3 hR3 hB3 hrd e1 e2 e3 sr ins R4 g4 hB4 hcr fr
      go_wp2
      go_ret
      exact ⟨rfl, HB4.out⟩

end Go.Proofs.Ytjpnhphnfbhpbaa
