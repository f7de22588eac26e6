/- Elections: the lowest disk of a group. (Printed by el3.py.) -/
import Derived.Test.YtgpfjinkmagelaaElA
import Derived.Test.YtgpfjinkmagelaaElB
set_option linter.unusedVariables false
set_option linter.unusedSimpArgs false
namespace Go.Proofs.Ytgpfjinkmagelaa
open Go Go.RowKit Go.Lib

theorem owns_belowI {w w' : World} {base : Nat} {e : TypeId} {es n : Nat} {v : Value} {xs : List Value} (h : w.ownsRow base e es v n xs) (hb : Below w.heap.size w w') : w'.ownsRow base e es v n xs :=
  h.kept (row := none) (grownBy_below hb) (by cases v.ownBlock <;> simp)
theorem cell_new1 (w : World) (v : Value) (T : TypeId) : (w.alloc (.cells #[v] T)).cell? ⟨w.heap.size, 0, none⟩ = some v := by
  exact (rangeAt_new w #[v] T 0 v rfl)


set_option maxRecDepth 100000 in
set_option maxHeartbeats 800000 in
/-- 'func(i int) int { return labels[i].Disk }'. -/
theorem disk_any (xs : List LL) (a : Option Addr) (n c : Nat) (BL i : Nat) (w : World) (hX : Lbs w a n c xs) (hi : i < xs.length) (hn6 : n ≤ 1000) (hBL : w.cell? ⟨BL, 0, none⟩ = some (.slice a n c)) :
    Calls Try.prog 43 #[.int .i64 (i : Int), .pointer (some ⟨BL, 0, none⟩)] w fun e w' => e = .returned (.int .i64 (lab xs i).dk) ∧ Below w.heap.size w w' := by
  have hlen := hX.len
  have hcapL := hX.sl.cap
  obtain ⟨bL, oL, haL, hbL, r0⟩ := hX.at hi
  have hc1 : w.cell? ⟨bL, oL + i * 19 + 1, none⟩ = some (.int .i64 xs[i].l.dk) := r0 1 _ rfl
  rw [← lab_lt hi] at hc1
  have hiI : (i : Int) < n := by omega
  have hi0 : (0 : Int) ≤ (i : Int) := by omega
  subst haL
  clear hX r0 hlen
  go_enter Try.func43, Try.ntmps43
  go_wp2
  go_ret
  exact ⟨rfl, Below.refl _ _⟩

set_option maxRecDepth 100000 in
set_option maxHeartbeats 800000 in
theorem mapped_any (xs : List LL) (a : Option Addr) (n c : Nat) (s : List Nat) (aS : Option Addr) (ns cs : Nat) (BL : Nat) (w : World) (hX : Lbs w a n c xs) (hS : Sl w 1 aS ns cs (ic s)) (hok : ∀ i ∈ s, i < xs.length) (hn6 : n ≤ 1000) (hn : ns ≤ 1000) (hBL : w.cell? ⟨BL, 0, none⟩ = some (.slice a n c)) :
    Calls Try.prog 42 #[.slice aS ns cs, .func (.func 43) #[] #[.pointer (some ⟨BL, 0, none⟩)]] w fun e w' => ∃ a1 n1 c1, e = .returned (.slice a1 n1 c1) ∧ Sl w' 1 a1 n1 c1 (zc (s.map fun i => (lab xs i).dk)) ∧ Below w.heap.size w w' := by
  have hlen : ns = s.length := by have := hS.len; rw [ic_length] at this; omega
  have hcapS := hS.cap
  have HX := Lib.hid hX
  have HS := Lib.hid hS
  have HL := Lib.hid hlen
  have HOK := Lib.hid hok
  have HBL := Lib.hid hBL
  clear hX hS hlen hok hBL
  go_enter Try.func42, Try.ntmps42
  go_wp2
  go_loopw [5, 10] (fun bvv iv wr => ∃ (i : Nat) (a1 : Option Addr) (c1 : Nat), iv = .int .i64 (i : Int) ∧ i ≤ ns ∧ bvv = .slice a1 i c1 ∧ Hid (wr.ownsRow w.heap.size 3 1 (.slice a1 i c1) i (zc ((s.take i).map fun i => (lab xs i).dk))) ∧ Hid (Below w.heap.size w wr) ∧ w.heap.size ≤ wr.heap.size) (fun _ iv _ => ns - (intOf iv).toNat)
  case atStart => exact ⟨0, none, 0, rfl, by omega, rfl, Lib.hid (World.ownsRow_nil _ _ _ _), Lib.hid (Below.refl _ _), Nat.le_refl _⟩
  case round =>
    obtain ⟨i, a1, c1, rfl, hin, rfl, hs1, hB, hbs⟩ := hrel
    by_cases hi : i < ns
    · have hiI : (i : Int) < ns := by omega
      have hi0 : (0 : Int) ≤ (i : Int) := by omega
      have hik : i < s.length := by have := HL.out; omega
      obtain ⟨b, off, ha, hcell⟩ := (HS.out.below hB.out).at (k := i) (by rw [ic_length]; exact hik)
      subst ha
      have hc := hcell i (by rw [ic_length]; exact hik)
      simp only [ic, List.getElem_map] at hc
      clear hcell
      have hnext : Hid (zc ((s.take i).map fun i => (lab xs i).dk) ++ [.int .i64 (lab xs s[i]).dk] = zc ((s.take (i + 1)).map fun i => (lab xs i).dk)) := by
        refine Lib.hid ?_
        rw [List.take_succ_eq_append_getElem hik]
        simp only [zc, List.map_append, List.map_cons, List.map_nil]
      have hjl := HOK.out _ (List.getElem_mem hik)
      obtain ⟨j, hj⟩ : ∃ j, j = s[i] := ⟨_, rfl⟩
      rw [← hj] at hc hnext hjl
      obtain ⟨p, hp⟩ : ∃ p, p = zc ((s.take i).map fun i => (lab xs i).dk) := ⟨_, rfl⟩
      rw [← hp] at hnext hs1
      obtain ⟨x, hx⟩ : ∃ x, x = (lab xs j).dk := ⟨_, rfl⟩
      have HC := Lib.hid (disk_any xs _ n c BL j wr (HX.out.below hB.out) hjl hn6 (below_cell hB.out (World.block_lt_of_cell? w _ HBL.out) HBL.out))
      rw [← hx] at hnext HC
      clear hj hp hjl hx
      have hs2 := hs1.out
      clear hs1
      go_wp2_with (first | (go_at_call 43; refine HC.out.mono ?_; rintro e w1 ⟨rfl, hb1⟩; replace hs2 := owns_belowI hs2 hb1; have HB1 := Lib.hid hb1; have hsz := hb1.size; clear hb1) | (at_builtin; refine wpList_appendI _ rfl _ _ rfl rfl w.heap.size _ i p rfl (hs2.alloc _) _ 1 1 _ rfl (Sl.single _ _ _ rfl) ?h1 ?h2 ?h3))
      case h1 => omega
      case h2 => (try simp); omega
      case h3 =>
        intro a2 c2 w2 hown2 hg2
        go_wp2
        go_roundw
        case rel => exact ⟨i + 1, a2, c2, by go_num, by omega, rfl, Lib.hid (by rw [← hnext.out]; exact hown2), Lib.hid (((hB.out.trans (HB1.out.mono hbs)).alloc (by omega) _).grown hg2 (by simp; omega) (fun j hj => (hs2.lt j hj).1)), by have := hg2.size; simp at this; omega⟩
        case measure => simp [intOf]; omega
    · have hiI : ¬ (i : Int) < ns := by omega
      obtain rfl : ns = i := by omega
      go_wp2
      go_ret
      have hs2 := hs1.out
      rw [List.take_of_length_le (by have := HL.out; omega)] at hs2
      exact ⟨a1, ns, c1, rfl, (Sl.of_owns hs2 (zc_one _)).2, hB.out⟩

/-- The least number. -/
def minL : List Int → Int
  | [] => 0
  | z :: zs => zs.foldl min z
theorem minL_take {zs : List Int} {i : Nat} (h : i < zs.length) (h1 : 1 ≤ i) : minL (zs.take (i + 1)) = min (minL (zs.take i)) zs[i] := by
  cases zs with
  | nil => simp at h
  | cons z zs =>
    obtain ⟨k, rfl⟩ : ∃ k, i = k + 1 := ⟨i - 1, by omega⟩
    have hk : k < zs.length := by simpa using h
    simp only [List.take_succ_cons, minL, List.getElem_cons_succ]
    rw [List.take_succ_eq_append_getElem hk, List.foldl_append]
    rfl

set_option maxRecDepth 100000 in
set_option maxHeartbeats 800000 in
theorem min_any (zs : List Int) (a : Option Addr) (n c : Nat) (w : World) (h : Sl w 1 a n c (zc zs)) (hs : zs.length ≤ 1000000) (h0 : zs ≠ []) :
    Calls Try.prog 41 #[.slice a n c] w fun e w' => e = .returned (.int .i64 (minL zs)) ∧ Below w.heap.size w w' := by
  have hlen := h.len
  rw [zc_length, Nat.mul_one] at hlen
  have hcap := h.cap
  have hpos : 0 < zs.length := List.length_pos_iff.2 h0
  have hn6 : n ≤ 1000000 := by omega
  have hn1 : 1 ≤ n := by omega
  have hn1I : ¬ (n : Int) < 1 := by omega
  have hn1J : (0 : Int) < n := by omega
  have HL := Lib.hid hlen
  have Hh := Lib.hid h
  obtain ⟨b, off, ha, hcell⟩ := h.at (k := 0) (by rw [zc_length]; exact hpos)
  have hc0 := hcell 0 (by rw [zc_length]; exact hpos)
  simp only [zc, List.getElem_map, Nat.add_zero] at hc0
  subst ha
  obtain ⟨z0, hz0⟩ : ∃ z0, z0 = zs[0] := ⟨_, rfl⟩
  rw [← hz0] at hc0
  have HZ : Hid (minL (zs.take 1) = z0) := Lib.hid (by cases zs with | nil => simp at hpos | cons z zs => rw [hz0]; rfl)
  clear hlen h hcell h0 hpos hz0
  go_enter Try.func41, Try.ntmps41
  go_wp2
  go_loopw [3, 4] (fun nv iv wr => ∃ (i : Nat), nv = .int .i64 (minL (zs.take i)) ∧ iv = .int .i64 (i : Int) ∧ i ≤ n ∧ 1 ≤ i ∧ Hid (Below w.heap.size w wr)) (fun _ iv _ => n - (intOf iv).toNat)
  case atStart => exact ⟨1, by rw [HZ.out], rfl, by omega, by omega, Lib.hid (Below.refl _ _)⟩
  case round =>
    obtain ⟨i, rfl, rfl, hin, hi1, hB⟩ := hrel
    clear hc0
    by_cases hi : i < n
    · have hiI : (i : Int) < n := by omega
      have hi0 : (0 : Int) ≤ (i : Int) := by omega
      have hik : i < zs.length := by have := HL.out; omega
      obtain ⟨b', off', ha, hcell⟩ := (Hh.out.below hB.out).at (k := i) (by rw [zc_length]; exact hik)
      obtain ⟨rfl, rfl⟩ : b = b' ∧ off = off' := by simpa using ha
      have hc := hcell i (by rw [zc_length]; exact hik)
      simp only [zc, List.getElem_map] at hc
      have hnext := minL_take hik hi1
      clear hcell ha
      obtain ⟨x, hx⟩ : ∃ x, x = zs[i] := ⟨_, rfl⟩
      rw [← hx] at hc hnext
      obtain ⟨m, hm⟩ : ∃ m, m = minL (zs.take i) := ⟨_, rfl⟩
      rw [← hm] at hnext ⊢
      have HN := Lib.hid hnext
      clear hx hm hnext
      go_wp2
      go_roundw
      case rel => exact ⟨i + 1, by rw [HN.out]; congr 1; split <;> omega, by go_num, by omega, by omega, hB⟩
      case measure => simp [intOf]; omega
    · have hiI : ¬ (i : Int) < n := by omega
      obtain rfl : n = i := by omega
      go_wp2
      go_ret
      rw [List.take_of_length_le (by have := HL.out; omega)]
      exact ⟨rfl, hB.out⟩

set_option maxRecDepth 100000 in
set_option maxHeartbeats 800000 in
theorem lowest_any (xs : List LL) (a : Option Addr) (n c : Nat) (s : List Nat) (aS : Option Addr) (ns cs : Nat) (w : World) (hX : Lbs w a n c xs) (hS : Sl w 1 aS ns cs (ic s)) (hok : GrOk xs s) (hn6 : n ≤ 1000) (hn : ns ≤ 1000) :
    Calls Try.prog 33 #[.slice a n c, .slice aS ns cs] w fun e w' => e = .returned (.int .i64 (minL (s.map fun i => (lab xs i).dk))) ∧ Below w.heap.size w w' := by
  have hsl : s.length = ns := by have := hS.len; rw [ic_length] at this; omega
  have hb0 : Below w.heap.size w (w.alloc (.cells #[.slice a n c] 22)) := (Below.refl _ _).alloc (Nat.le_refl _) _
  have HC := Lib.hid (mapped_any xs a n c s aS ns cs w.heap.size (w.alloc (.cells #[.slice a n c] 22)) (hX.below hb0) (hS.below hb0) hok.2 hn6 hn (cell_new1 _ _ _))
  have hne : (s.map fun i => (lab xs i).dk) ≠ [] := by simpa using hok.1
  have hl2 : (s.map fun i => (lab xs i).dk).length ≤ 1000000 := by rw [List.length_map]; omega
  obtain ⟨zs, hzs⟩ : ∃ zs, zs = s.map fun i => (lab xs i).dk := ⟨_, rfl⟩
  rw [← hzs] at HC hne hl2 ⊢
  have HN := Lib.hid hne
  have HB0 := Lib.hid hb0
  have hs0 : w.heap.size ≤ (w.alloc (.cells #[.slice a n c] 22)).heap.size := hb0.size
  clear hX hS hok hne hzs hb0
  go_enter Try.func33, Try.ntmps33
  go_wp2_with (first | (go_at_call 42; refine HC.out.mono ?_; rintro e w1 ⟨a1, n1, c1, rfl, hz, hb1⟩; have HB1 := Lib.hid (HB0.out.trans (hb1.mono hs0)); have hs1 := HB1.out.size; clear hb1) | (go_at_call 41; refine (min_any zs a1 n1 c1 _ hz hl2 HN.out).mono ?_; rintro e w2 ⟨rfl, hb2⟩; have HB2 := Lib.hid (HB1.out.trans (hb2.mono hs1)); clear hb2))
  go_ret
  exact ⟨rfl, HB2.out⟩

end Go.Proofs.Ytgpfjinkmagelaa
