/- Elections: Count, Out (both), SameInts. (Printed by el2.py.) -/
import Derived.Test.YtgpfjinkmagelaaElKit
set_option linter.unusedVariables false
set_option linter.unusedSimpArgs false
namespace Go.Proofs.Ytgpfjinkmagelaa
open Go Go.RowKit Go.Lib

/-- How many are negative. -/
def negs (zs : List Int) : Nat := zs.countP fun z => decide (z < 0)
theorem negs_take {zs : List Int} {i : Nat} (h : i < zs.length) : negs (zs.take (i + 1)) = negs (zs.take i) + (if zs[i] < 0 then 1 else 0) := by
  unfold negs
  rw [List.take_succ_eq_append_getElem h, List.countP_append]
  congr 1
  by_cases hx : zs[i] < 0 <;> simp [hx]
/-- Which are negative. -/
def outsL (zs : List Int) : List Bool := zs.map fun z => decide (z < 0)

/-- append to a row of the call's own, of one cell an element. -/
theorem wpList_appendT (w : World) (e : TypeId) (z : Value) (bytes : Nat) (hinf : (Try.prog.info? e).map (fun i => (i.zero, i.size, i.bytes)) = some (some z, 1, bytes)) (hzs : z.cells.size = 1) (hby : bytes ≤ 1000)
    {ops : Array Oper} {rest : List Oper} {o : Oper} {a : Act} {Q : Exit → Act → World → Prop} (hgd : o.guard = none) (s x : Operand) {t : TypeId} (ht : Try.prog.underlying t = some (.slice e))
    (ho : o.op = .call { callee := .builtin .append, args := #[s, x], argTypes := #[t, t] })
    (base : Nat) (v : Value) (n : Nat) (xs : List Value) (hs : a.eval s = v) (hown : w.ownsRow base e 1 v n xs)
    (ax : Option Addr) (m c : Nat) (news : List Value) (hx : a.eval x = .slice ax m c) (hsl : Sl w 1 ax m c news)
    (hb : n + m ≤ 1000000) (hbase : base ≤ w.heap.size)
    (h : ∀ a' c' w', w'.ownsRow base e 1 (.slice a' (n + m) c') (n + m) (xs ++ news) → w.grownBy w' v.ownBlock → wpList Try.prog ops Q rest (a.put o.dst (.slice a' (n + m) c')) w') : wpList Try.prog ops Q (o :: rest) a w :=
  wpList_plain hgd fun K hK => by
    obtain ⟨i0, hi, hz0, hz1, hz2⟩ := info_parts hinf
    exact wp_append_sl w s x t ho base e i0 z 1 bytes ht hi hz0 hz1 hz2 hzs (by decide) v n xs hs hown ax m c news hx hsl (by unfold maxLen; omega) (by have : (n + m) * bytes ≤ 1000000 * 1000 := Nat.mul_le_mul hb hby; omega) hbase (fun a' c' w' h1 h2 => hK _ _ (h a' c' w' h1 h2))

set_option maxRecDepth 100000 in
set_option maxHeartbeats 800000 in
theorem count_any (zs : List Int) (a : Option Addr) (n c : Nat) (w : World) (h : Sl w 1 a n c (zc zs)) (hs : zs.length ≤ 1000000) :
    Calls Try.prog 20 #[.slice a n c] w fun e w' => e = .returned (.int .i64 (negs zs : Int)) ∧ Below w.heap.size w w' := by
  have hlen := h.len
  rw [zc_length, Nat.mul_one] at hlen
  have hcap := h.cap
  have hn6 : n ≤ 1000000 := by omega
  have HL := Lib.hid hlen
  have Hh := Lib.hid h
  clear hlen h
  go_enter Try.func20, Try.ntmps20
  go_wp2
  go_loopw [3, 8] (fun nv iv wr => ∃ (i : Nat), nv = .int .i64 ((negs (zs.take i) : Nat) : Int) ∧ iv = .int .i64 (i : Int) ∧ i ≤ n ∧ Hid (Below w.heap.size w wr)) (fun _ iv _ => n - (intOf iv).toNat)
  case atStart => exact ⟨0, rfl, rfl, by omega, Lib.hid (Below.refl _ _)⟩
  case round =>
    obtain ⟨i, rfl, rfl, hin, hB⟩ := hrel
    by_cases hi : i < n
    · have hiI : (i : Int) < n := by omega
      have hi0 : (0 : Int) ≤ (i : Int) := by omega
      have hik : i < zs.length := by have := HL.out; omega
      have hct : negs (zs.take i) ≤ i := by have := List.countP_le_length (p := fun z : Int => decide (z < 0)) (l := zs.take i); rw [List.length_take] at this; unfold negs; omega
      obtain ⟨b, off, ha, hcell⟩ := (Hh.out.below hB.out).at (k := i) (by rw [zc_length]; exact hik)
      subst ha
      have hc := hcell i (by rw [zc_length]; exact hik)
      simp only [zc, List.getElem_map] at hc
      have hnext := negs_take hik
      clear hcell
      obtain ⟨x, hx⟩ : ∃ x, x = zs[i] := ⟨_, rfl⟩
      rw [← hx] at hc hnext
      clear hx
      by_cases hx0 : x < 0
      · rw [if_pos hx0] at hnext
        have HN := Lib.hid hnext
        clear hnext
        go_wp2
        go_roundw
        case rel => exact ⟨i + 1, by rw [HN.out]; simp, by go_num, by omega, hB⟩
        case measure => simp [intOf]; omega
      · rw [if_neg hx0] at hnext
        have HN := Lib.hid hnext
        clear hnext
        go_wp2
        go_roundw
        case rel => exact ⟨i + 1, by rw [HN.out]; simp, by go_num, by omega, hB⟩
        case measure => simp [intOf]; omega
    · have hiI : ¬ (i : Int) < n := by omega
      obtain rfl : n = i := by omega
      go_wp2
      go_ret
      rw [List.take_of_length_le (by have := HL.out; omega)]
      exact ⟨rfl, hB.out⟩

set_option maxRecDepth 100000 in
set_option maxHeartbeats 800000 in
theorem refCount_any (zs : List Int) (a : Option Addr) (n c : Nat) (w : World) (h : Sl w 1 a n c (zc zs)) (hs : zs.length ≤ 1000000) :
    Calls Try.prog 17 #[.slice a n c] w fun e w' => e = .returned (.int .i64 (negs zs : Int)) ∧ Below w.heap.size w w' := by
  have hlen := h.len
  rw [zc_length, Nat.mul_one] at hlen
  have hcap := h.cap
  have hn6 : n ≤ 1000000 := by omega
  have HL := Lib.hid hlen
  have Hh := Lib.hid h
  clear hlen h
  go_enter Try.func17, Try.ntmps17
  go_wp2
  go_loopw [3, 4] (fun nv iv wr => ∃ (i : Nat), nv = .int .i64 ((negs (zs.take i) : Nat) : Int) ∧ iv = .int .i64 (i : Int) ∧ i ≤ n ∧ Hid (Below w.heap.size w wr)) (fun _ iv _ => n - (intOf iv).toNat)
  case atStart => exact ⟨0, rfl, rfl, by omega, Lib.hid (Below.refl _ _)⟩
  case round =>
    obtain ⟨i, rfl, rfl, hin, hB⟩ := hrel
    by_cases hi : i < n
    · have hiI : (i : Int) < n := by omega
      have hi0 : (0 : Int) ≤ (i : Int) := by omega
      have hik : i < zs.length := by have := HL.out; omega
      have hct : negs (zs.take i) ≤ i := by have := List.countP_le_length (p := fun z : Int => decide (z < 0)) (l := zs.take i); rw [List.length_take] at this; unfold negs; omega
      obtain ⟨b, off, ha, hcell⟩ := (Hh.out.below hB.out).at (k := i) (by rw [zc_length]; exact hik)
      subst ha
      have hc := hcell i (by rw [zc_length]; exact hik)
      simp only [zc, List.getElem_map] at hc
      have hnext := negs_take hik
      clear hcell
      obtain ⟨x, hx⟩ : ∃ x, x = zs[i] := ⟨_, rfl⟩
      rw [← hx] at hc hnext
      clear hx
      by_cases hx0 : x < 0
      · rw [if_pos hx0] at hnext
        have HN := Lib.hid hnext
        clear hnext
        go_wp2
        go_roundw
        case rel => exact ⟨i + 1, by rw [HN.out]; simp, by go_num, by omega, hB⟩
        case measure => simp [intOf]; omega
      · rw [if_neg hx0] at hnext
        have HN := Lib.hid hnext
        clear hnext
        go_wp2
        go_roundw
        case rel => exact ⟨i + 1, by rw [HN.out]; simp, by go_num, by omega, hB⟩
        case measure => simp [intOf]; omega
    · have hiI : ¬ (i : Int) < n := by omega
      obtain rfl : n = i := by omega
      go_wp2
      go_ret
      rw [List.take_of_length_le (by have := HL.out; omega)]
      exact ⟨rfl, hB.out⟩

set_option maxRecDepth 100000 in
set_option maxHeartbeats 800000 in
theorem out_any (zs : List Int) (a : Option Addr) (n c : Nat) (w : World) (h : Sl w 1 a n c (zc zs)) (hs : zs.length ≤ 100000) :
    Calls Try.prog 18 #[.slice a n c] w fun e w' => ∃ a1 n1 c1, e = .returned (.slice a1 n1 c1) ∧ Sl w' 1 a1 n1 c1 (bb (outsL zs)) ∧ Below w.heap.size w w' := by
  have hlen := h.len
  rw [zc_length, Nat.mul_one] at hlen
  have hcap := h.cap
  have hn6 : n ≤ 100000 := by omega
  have HL := Lib.hid hlen
  have Hh := Lib.hid h
  clear hlen h
  go_enter Try.func18, Try.ntmps18
  go_wp2
  go_loopw [3, 8] (fun bvv iv wr => ∃ (i : Nat) (a1 : Option Addr) (c1 : Nat), iv = .int .i64 (i : Int) ∧ i ≤ n ∧ bvv = .slice a1 i c1 ∧ Hid (wr.ownsRow w.heap.size 4 1 (.slice a1 i c1) i (bb (outsL (zs.take i)))) ∧ Hid (Below w.heap.size w wr) ∧ w.heap.size ≤ wr.heap.size) (fun _ iv _ => n - (intOf iv).toNat)
  case atStart => exact ⟨0, none, 0, rfl, by omega, rfl, Lib.hid (World.ownsRow_nil _ _ _ _), Lib.hid (Below.refl _ _), Nat.le_refl _⟩
  case round =>
    obtain ⟨i, a1, c1, rfl, hin, rfl, hs1, hB, hbs⟩ := hrel
    by_cases hi : i < n
    · have hiI : (i : Int) < n := by omega
      have hi0 : (0 : Int) ≤ (i : Int) := by omega
      have hik : i < zs.length := by have := HL.out; omega
      obtain ⟨b, off, ha, hcell⟩ := (Hh.out.below hB.out).at (k := i) (by rw [zc_length]; exact hik)
      subst ha
      have hc := hcell i (by rw [zc_length]; exact hik)
      simp only [zc, List.getElem_map] at hc
      clear hcell
      have hnext : Hid (bb (outsL (zs.take i)) ++ [.bool (decide (zs[i] < 0))] = bb (outsL (zs.take (i + 1)))) := by
        refine Lib.hid ?_
        rw [List.take_succ_eq_append_getElem hik]
        simp only [bb, outsL, List.map_append, List.map_cons, List.map_nil]
      obtain ⟨x, hx⟩ : ∃ x, x = zs[i] := ⟨_, rfl⟩
      rw [← hx] at hc hnext
      obtain ⟨p, hp⟩ : ∃ p, p = bb (outsL (zs.take i)) := ⟨_, rfl⟩
      rw [← hp] at hnext hs1
      clear hx hp
      have hs2 := hs1.out
      clear hs1
      by_cases hx0 : x < 0
      all_goals
        first | rw [decide_eq_true hx0] at hnext | rw [decide_eq_false hx0] at hnext
        go_wp2_with (at_builtin; refine wpList_appendT _ 4 (.bool false) 1 (by kernel_rfl) rfl (by decide) rfl _ _ rfl rfl w.heap.size _ i p rfl (hs2.alloc _) _ 1 1 _ rfl (Sl.single _ _ _ rfl) ?h1 ?h2 ?h3)
        case h1 => omega
        case h2 => (try simp); omega
        case h3 =>
          intro a2 c2 w2 hown2 hg2
          go_wp2
          go_roundw
          case rel => exact ⟨i + 1, a2, c2, by go_num, by omega, rfl, Lib.hid (by rw [← hnext.out]; exact hown2), Lib.hid ((hB.out.alloc hbs _).grown hg2 (by simp; omega) (fun j hj => (hs2.lt j hj).1)), by have := hg2.size; simp at this; omega⟩
          case measure => simp [intOf]; omega
    · have hiI : ¬ (i : Int) < n := by omega
      obtain rfl : n = i := by omega
      go_wp2
      go_ret
      have hs2 := hs1.out
      rw [List.take_of_length_le (by have := HL.out; omega)] at hs2
      exact ⟨a1, n, c1, rfl, (Sl.of_owns hs2 (bb_one _)).2, hB.out⟩

set_option maxRecDepth 100000 in
set_option maxHeartbeats 800000 in
theorem refOut_any (zs : List Int) (a : Option Addr) (n c : Nat) (w : World) (h : Sl w 1 a n c (zc zs)) (hs : zs.length ≤ 100000) :
    Calls Try.prog 19 #[.slice a n c] w fun e w' => ∃ a1 n1 c1, e = .returned (.slice a1 n1 c1) ∧ Sl w' 1 a1 n1 c1 (bb (outsL zs)) ∧ Below w.heap.size w w' := by
  have hlen := h.len
  rw [zc_length, Nat.mul_one] at hlen
  have hcap := h.cap
  have hn6 : n ≤ 100000 := by omega
  have HL := Lib.hid hlen
  have Hh := Lib.hid h
  clear hlen h
  go_enter Try.func19, Try.ntmps19
  go_wp2
  go_loopw [3, 4] (fun bvv iv wr => ∃ (i : Nat) (a1 : Option Addr) (c1 : Nat), iv = .int .i64 (i : Int) ∧ i ≤ n ∧ bvv = .slice a1 i c1 ∧ Hid (wr.ownsRow w.heap.size 4 1 (.slice a1 i c1) i (bb (outsL (zs.take i)))) ∧ Hid (Below w.heap.size w wr) ∧ w.heap.size ≤ wr.heap.size) (fun _ iv _ => n - (intOf iv).toNat)
  case atStart => exact ⟨0, none, 0, rfl, by omega, rfl, Lib.hid (World.ownsRow_nil _ _ _ _), Lib.hid (Below.refl _ _), Nat.le_refl _⟩
  case round =>
    obtain ⟨i, a1, c1, rfl, hin, rfl, hs1, hB, hbs⟩ := hrel
    by_cases hi : i < n
    · have hiI : (i : Int) < n := by omega
      have hi0 : (0 : Int) ≤ (i : Int) := by omega
      have hik : i < zs.length := by have := HL.out; omega
      obtain ⟨b, off, ha, hcell⟩ := (Hh.out.below hB.out).at (k := i) (by rw [zc_length]; exact hik)
      subst ha
      have hc := hcell i (by rw [zc_length]; exact hik)
      simp only [zc, List.getElem_map] at hc
      clear hcell
      have hnext : Hid (bb (outsL (zs.take i)) ++ [.bool (decide (zs[i] < 0))] = bb (outsL (zs.take (i + 1)))) := by
        refine Lib.hid ?_
        rw [List.take_succ_eq_append_getElem hik]
        simp only [bb, outsL, List.map_append, List.map_cons, List.map_nil]
      obtain ⟨x, hx⟩ : ∃ x, x = zs[i] := ⟨_, rfl⟩
      rw [← hx] at hc hnext
      obtain ⟨p, hp⟩ : ∃ p, p = bb (outsL (zs.take i)) := ⟨_, rfl⟩
      rw [← hp] at hnext hs1
      clear hx hp
      have hs2 := hs1.out
      clear hs1
      by_cases hx0 : x < 0
      all_goals
        first | rw [decide_eq_true hx0] at hnext | rw [decide_eq_false hx0] at hnext
        go_wp2_with (at_builtin; refine wpList_appendT _ 4 (.bool false) 1 (by kernel_rfl) rfl (by decide) rfl _ _ rfl rfl w.heap.size _ i p rfl (hs2.alloc _) _ 1 1 _ rfl (Sl.single _ _ _ rfl) ?h1 ?h2 ?h3)
        case h1 => omega
        case h2 => (try simp); omega
        case h3 =>
          intro a2 c2 w2 hown2 hg2
          go_wp2
          go_roundw
          case rel => exact ⟨i + 1, a2, c2, by go_num, by omega, rfl, Lib.hid (by rw [← hnext.out]; exact hown2), Lib.hid ((hB.out.alloc hbs _).grown hg2 (by simp; omega) (fun j hj => (hs2.lt j hj).1)), by have := hg2.size; simp at this; omega⟩
          case measure => simp [intOf]; omega
    · have hiI : ¬ (i : Int) < n := by omega
      obtain rfl : n = i := by omega
      go_wp2
      go_ret
      have hs2 := hs1.out
      rw [List.take_of_length_le (by have := HL.out; omega)] at hs2
      exact ⟨a1, n, c1, rfl, (Sl.of_owns hs2 (bb_one _)).2, hB.out⟩

set_option maxRecDepth 100000 in
set_option maxHeartbeats 1600000 in
theorem sameInts_any (l m : List Int) (ad ad' : Option Addr) (nd nd' c c' : Nat) (w : World) (h : Sl w 1 ad nd c (zc l)) (h' : Sl w 1 ad' nd' c' (zc m)) (hs : l.length ≤ 1000000) :
    Calls Try.prog 14 #[.slice ad nd c, .slice ad' nd' c'] w fun e w' => e = .returned (.bool (decide (l = m))) ∧ Below w.heap.size w w' := by
  have hn : nd = l.length := by have := h.len; rw [zc_length, Nat.mul_one] at this; omega
  have hn' : nd' = m.length := by have := h'.len; rw [zc_length, Nat.mul_one] at this; omega
  have hcap1 := h.cap
  have hcap2 := h'.cap
  have HH := Lib.hid h
  have HH' := Lib.hid h'
  clear h h'
  go_enter Try.func14, Try.ntmps14
  by_cases hne : nd = nd'
  · subst hne
    have HN := Lib.hid hn
    have HN' := Lib.hid hn'
    clear hn hn'
    go_wp2
    go_loopw [5] (fun iv wr => ∃ (i : Nat), iv = .int .i64 (i : Int) ∧ i ≤ nd ∧ Hid (l.take i = m.take i) ∧ Hid (Below w.heap.size w wr)) (fun iv _ => nd - (intOf iv).toNat)
    case atStart => exact ⟨0, rfl, by omega, Lib.hid rfl, Lib.hid (Below.refl _ _)⟩
    case round =>
      obtain ⟨i, rfl, hin, HT, hB⟩ := hrel
      by_cases hi : i < nd
      · have hiI : (i : Int) < nd := by omega
        have hiI2 : (i : Int) < nd := by omega
        have hi0 : (0 : Int) ≤ (i : Int) := by omega
        have hik : i < l.length := by have := HN.out; omega
        have him : i < m.length := by have := HN'.out; omega
        have hnum : nd ≤ 1000000 := by have := HN.out; omega
        obtain ⟨b, off, ha, hcell⟩ := HH.out.at (k := i) (by rw [zc_length]; exact hik)
        obtain ⟨b', off', ha', hcell'⟩ := HH'.out.at (k := i) (by rw [zc_length]; exact him)
        have hc1 := hcell i (by rw [zc_length]; exact hik)
        have hc2 := hcell' i (by rw [zc_length]; exact him)
        simp only [zc, List.getElem_map] at hc1 hc2
        obtain ⟨x, hx⟩ : ∃ x, x = l[i] := ⟨_, rfl⟩
        obtain ⟨y, hy⟩ : ∃ y, y = m[i] := ⟨_, rfl⟩
        rw [← hx] at hc1
        rw [← hy] at hc2
        have CA : Hid (∀ z, Below w.heap.size w z → z.cell? ⟨b, off + i, none⟩ = some (.int .i64 x)) := Lib.hid fun z hz => below_cell hz (World.block_lt_of_cell? w _ hc1) hc1
        have CB : Hid (∀ z, Below w.heap.size w z → z.cell? ⟨b', off' + i, none⟩ = some (.int .i64 y)) := Lib.hid fun z hz => below_cell hz (World.block_lt_of_cell? w _ hc2) hc2
        have HXX := Lib.hid hx
        have HYY := Lib.hid hy
        clear hcell hcell' hc1 hc2 hx hy
        subst ha ha'
        have HB : Hid (Below w.heap.size w wr.drew) := Lib.hid hB.out.drew
        have hs : w.heap.size ≤ wr.drew.heap.size := HB.out.size
        go_wp2
        refine Rest.begin 9 (by kernel_rfl) (by kernel_rfl) ?_
        refine Rest.take 0 17 rfl (by kernel_rfl) (by kernel_rfl) (by kernel_rfl) (fun _ _ _ h => h) (by rfl) (by rfl) (by intro x hx; go_simp <;> with_reducible rfl) (by simp only [Act.put, List.setIfInBounds_toArray, List.set_cons_zero, List.set_cons_succ] <;> rfl) ?_
        refine Rest.take 1 18 rfl (by kernel_rfl) (by kernel_rfl) (by kernel_rfl) (fun _ _ _ h => h) (by rfl) (by rfl) (by intro x hx; go_simp <;> with_reducible rfl) (by simp only [Act.put, List.setIfInBounds_toArray, List.set_cons_zero, List.set_cons_succ] <;> rfl) ?_
        refine Rest.take 2 19 rfl (by kernel_rfl) (by kernel_rfl) (by kernel_rfl) (fun _ _ _ h => h) (by rfl) (by rfl) (by intro x hx; have h1 := hiI; have h2 := hi0; have h3 := hcap1; go_simp <;> with_reducible rfl) (by simp only [Act.put, List.setIfInBounds_toArray, List.set_cons_zero, List.set_cons_succ] <;> rfl) ?_
        refine Rest.take 3 20 rfl (by kernel_rfl) (by kernel_rfl) (by kernel_rfl) (fun _ _ _ h => h) (by rfl) (by rfl) (by intro x hx; have hc := CA.out x (later HB hs hx); go_simp <;> with_reducible rfl) (by simp only [Act.put, List.setIfInBounds_toArray, List.set_cons_zero, List.set_cons_succ] <;> rfl) ?_
        refine Rest.take 4 21 rfl (by kernel_rfl) (by kernel_rfl) (by kernel_rfl) (fun _ _ _ h => h) (by rfl) (by rfl) (by intro x hx; go_simp <;> with_reducible rfl) (by simp only [Act.put, List.setIfInBounds_toArray, List.set_cons_zero, List.set_cons_succ] <;> rfl) ?_
        refine Rest.take 5 22 rfl (by kernel_rfl) (by kernel_rfl) (by kernel_rfl) (fun _ _ _ h => h) (by rfl) (by rfl) (by intro x hx; go_simp <;> with_reducible rfl) (by simp only [Act.put, List.setIfInBounds_toArray, List.set_cons_zero, List.set_cons_succ] <;> rfl) ?_
        refine Rest.take 6 23 rfl (by kernel_rfl) (by kernel_rfl) (by kernel_rfl) (fun _ _ _ h => h) (by rfl) (by rfl) (by intro x hx; have h1 := hiI2; have h2 := hi0; have h3 := hcap2; go_simp <;> with_reducible rfl) (by simp only [Act.put, List.setIfInBounds_toArray, List.set_cons_zero, List.set_cons_succ] <;> rfl) ?_
        refine Rest.take 7 24 rfl (by kernel_rfl) (by kernel_rfl) (by kernel_rfl) (fun _ _ _ h => h) (by rfl) (by rfl) (by intro x hx; have hc := CB.out x (later HB hs hx); go_simp <;> with_reducible rfl) (by simp only [Act.put, List.setIfInBounds_toArray, List.set_cons_zero, List.set_cons_succ] <;> rfl) ?_
        refine Rest.take 8 25 rfl (by kernel_rfl) (by kernel_rfl) (by kernel_rfl) (fun _ _ _ h => h) (by rfl) (by rfl) (by intro x hx; go_simp <;> with_reducible rfl) (by simp only [Act.put, List.setIfInBounds_toArray, List.set_cons_zero, List.set_cons_succ] <;> rfl) ?_
        refine Rest.done (by kernel_rfl) ?_
        by_cases hxy : x = y
        · go_wp2
          go_roundw
          case rel =>
            refine ⟨i + 1, by go_num, by omega, Lib.hid ?_, HB⟩
            rw [List.take_succ_eq_append_getElem hik, List.take_succ_eq_append_getElem him, HT.out, ← HXX.out, ← HYY.out, hxy]
          case measure => simp [intOf]; omega
        · go_wp2
          go_ret
          have hlm : l ≠ m := by
            rintro rfl
            exact hxy (HXX.out.trans HYY.out.symm)
          rw [decide_eq_false hlm]
          exact ⟨rfl, HB.out⟩
      · have hiI : ¬ (i : Int) < nd := by omega
        obtain rfl : nd = i := by omega
        go_wp2
        go_ret
        have hlm : l = m := by
          have h1 := HN.out
          have h2 := HN'.out
          have h3 := HT.out
          rwa [List.take_of_length_le (by omega), List.take_of_length_le (by omega)] at h3
        rw [decide_eq_true hlm]
        exact ⟨rfl, hB.out⟩
  · have hneI : ¬ (nd : Int) = nd' := by omega
    go_wp2
    go_ret
    have hlm : l ≠ m := by
      rintro rfl
      exact hne (by omega)
    rw [decide_eq_false hlm]
    exact ⟨rfl, Below.refl _ _⟩

end Go.Proofs.Ytgpfjinkmagelaa
