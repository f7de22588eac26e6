/- Elections: the closures, slices.IndexFunc, slices.Min, Count, Out. (Printed by el1.py.) -/
import Derived.Test.YtgpfjinkmagelaaElKit
set_option linter.unusedVariables false
set_option linter.unusedSimpArgs false
namespace Go.Proofs.Ytgpfjinkmagelaa
open Go Go.RowKit Go.Lib

set_option maxRecDepth 100000 in
set_option maxHeartbeats 1600000 in
/-- 'func(s side) bool { return label.Equal(labels[s[0]], labels[i]) }'. -/
theorem same_any (xs : List LL) (a : Option Addr) (n c : Nat) (s : List Nat) (aS : Option Addr) (ns cs : Nat) (BL BJ j : Nat) (w : World) (hX : Lbs w a n c xs) (hS : Sl w 1 aS ns cs (ic s)) (i0 : Nat) (hs0 : s[0]? = some i0)
    (hi0 : i0 < xs.length) (hj : j < xs.length) (hshort : xs[i0].l.dead.length ≤ 1000000) (hn6 : n ≤ 1000) (hBL : w.cell? ⟨BL, 0, none⟩ = some (.slice a n c)) (hBJ : w.cell? ⟨BJ, 0, none⟩ = some (.int .i64 (j : Int))) :
    Calls Try.prog 40 #[.slice aS ns cs, .pointer (some ⟨BL, 0, none⟩), .pointer (some ⟨BJ, 0, none⟩)] w fun e w' => e = .returned (.bool (decide (xs[i0].l.equal xs[j].l))) ∧ Below w.heap.size w w' := by
  have hlen := hX.len
  have hcapL := hX.sl.cap
  have hcapS := hS.cap
  obtain ⟨bL, oL, haL, hbL, r0⟩ := hX.at hi0
  obtain ⟨bL', oL', haL', -, rj⟩ := hX.at hj
  rw [haL] at haL'
  obtain ⟨rfl, rfl⟩ : bL = bL' ∧ oL = oL' := by simpa using haL'
  have hsl : 0 < s.length := by rcases s with _ | ⟨y, s⟩ <;> simp at hs0 ⊢
  obtain ⟨bS, oS, haS, hcell⟩ := hS.at (k := 0) (by rw [ic_length]; exact hsl)
  have hc0 := hcell 0 (by rw [ic_length]; exact hsl)
  have hs0' : s[0] = i0 := by rw [List.getElem?_eq_getElem hsl] at hs0; simpa using hs0
  simp only [ic, List.getElem_map, hs0', Nat.add_zero] at hc0
  have hns : ns = s.length := by have := hS.len; rw [ic_length] at this; omega
  have hm0 : 0 < ns := by omega
  have hi0I : ((i0 : Nat) : Int) < n := by omega
  have hi00 : (0 : Int) ≤ ((i0 : Nat) : Int) := by omega
  have hjI : ((j : Nat) : Int) < n := by omega
  have hj0 : (0 : Int) ≤ ((j : Nat) : Int) := by omega
  have HX := Lib.hid hX
  have R0 := Lib.hid r0
  have RJ := Lib.hid rj
  have CBL : Hid (∀ z, Below w.heap.size w z → z.cell? ⟨BL, 0, none⟩ = some (.slice a n c)) := Lib.hid fun z hz => below_cell hz (World.block_lt_of_cell? w _ hBL) hBL
  have CBJ : Hid (∀ z, Below w.heap.size w z → z.cell? ⟨BJ, 0, none⟩ = some (.int .i64 (j : Int))) := Lib.hid fun z hz => below_cell hz (World.block_lt_of_cell? w _ hBJ) hBJ
  have CS : Hid (∀ z, Below w.heap.size w z → z.cell? ⟨bS, oS, none⟩ = some (.int .i64 (i0 : Int))) := Lib.hid fun z hz => below_cell hz (World.block_lt_of_cell? w _ hc0) hc0
  subst haL haS
  clear hX hS r0 rj hBL hBJ hcell hc0 hs0 hs0' haL' hsl hns hlen
  go_enter Try.func40, Try.ntmps40
  go_wp2
  have HB := Lib.hid (show Below w.heap.size w w.drew from (Below.refl _ _).drew)
  have hs : w.heap.size ≤ w.drew.heap.size := Nat.le_refl _
  refine Rest.begin 12 (by kernel_rfl) (by kernel_rfl) ?_
  refine Rest.take 0 5 rfl (by kernel_rfl) (by kernel_rfl) (by kernel_rfl) (fun _ _ _ h => h) (by rfl) (by rfl) (by intro x hx; have hc := CBL.out x (later HB hs hx); go_simp <;> with_reducible rfl) (by simp only [Act.put, List.setIfInBounds_toArray, List.set_cons_zero, List.set_cons_succ] <;> rfl) ?_
  refine Rest.take 1 6 rfl (by kernel_rfl) (by kernel_rfl) (by kernel_rfl) (fun _ _ _ h => h) (by rfl) (by rfl) (by intro x hx; go_simp <;> with_reducible rfl) (by simp only [Act.put, List.setIfInBounds_toArray, List.set_cons_zero, List.set_cons_succ] <;> rfl) ?_
  refine Rest.take 2 7 rfl (by kernel_rfl) (by kernel_rfl) (by kernel_rfl) (fun _ _ _ h => h) (by rfl) (by rfl) (by intro x hx; have h1 := hm0; have h2 := hcapS; go_simp <;> with_reducible rfl) (by simp only [Act.put, List.setIfInBounds_toArray, List.set_cons_zero, List.set_cons_succ] <;> rfl) ?_
  refine Rest.take 3 8 rfl (by kernel_rfl) (by kernel_rfl) (by kernel_rfl) (fun _ _ _ h => h) (by rfl) (by rfl) (by intro x hx; have hc := CS.out x (later HB hs hx); go_simp <;> with_reducible rfl) (by simp only [Act.put, List.setIfInBounds_toArray, List.set_cons_zero, List.set_cons_succ] <;> rfl) ?_
  refine Rest.take 4 9 (v := .pointer (some ⟨bL, oL + i0 * 19, none⟩)) rfl (by kernel_rfl) (by kernel_rfl) (by kernel_rfl) (fun _ _ _ h => h) (by rfl) (by rfl) (by intro x hx; have h1 := hi0I; have h2 := hi00; have h3 := hcapL; go_simp <;> with_reducible rfl) (by simp only [Act.put, List.setIfInBounds_toArray, List.set_cons_zero, List.set_cons_succ] <;> rfl) ?_
  refine Rest.takeMid 5 10 rfl (by kernel_rfl) (by kernel_rfl) (by kernel_rfl) 32 _ bL (oL + i0 * 19) xs[i0].arr.toList _ (fun _ _ _ h => h) (by rfl) rfl rfl (fun x hx => rangeAt_below R0.out (later HB hs hx) hbL) Try.underlying32 rfl (by kernel_rfl) rfl (by simp only [Act.put, List.setIfInBounds_toArray, List.set_cons_zero, List.set_cons_succ] <;> rfl) ?_
  refine Rest.take 6 11 rfl (by kernel_rfl) (by kernel_rfl) (by kernel_rfl) (fun _ _ _ h => h) (by rfl) (by rfl) (by intro x hx; have hc := CBL.out x (later HB hs hx); go_simp <;> with_reducible rfl) (by simp only [Act.put, List.setIfInBounds_toArray, List.set_cons_zero, List.set_cons_succ] <;> rfl) ?_
  refine Rest.take 7 12 rfl (by kernel_rfl) (by kernel_rfl) (by kernel_rfl) (fun _ _ _ h => h) (by rfl) (by rfl) (by intro x hx; have hc := CBJ.out x (later HB hs hx); go_simp <;> with_reducible rfl) (by simp only [Act.put, List.setIfInBounds_toArray, List.set_cons_zero, List.set_cons_succ] <;> rfl) ?_
  refine Rest.take 8 13 (v := .pointer (some ⟨bL, oL + j * 19, none⟩)) rfl (by kernel_rfl) (by kernel_rfl) (by kernel_rfl) (fun _ _ _ h => h) (by rfl) (by rfl) (by intro x hx; have h1 := hjI; have h2 := hj0; have h3 := hcapL; go_simp <;> with_reducible rfl) (by simp only [Act.put, List.setIfInBounds_toArray, List.set_cons_zero, List.set_cons_succ] <;> rfl) ?_
  refine Rest.takeMid 9 14 rfl (by kernel_rfl) (by kernel_rfl) (by kernel_rfl) 32 _ bL (oL + j * 19) xs[j].arr.toList _ (fun _ _ _ h => h) (by rfl) rfl rfl (fun x hx => rangeAt_below RJ.out (later HB hs hx) hbL) Try.underlying32 rfl (by kernel_rfl) rfl (by simp only [Act.put, List.setIfInBounds_toArray, List.set_cons_zero, List.set_cons_succ] <;> rfl) ?_
  refine Rest.step 10 rfl (by kernel_rfl) (by rfl) (fun K hK => ?_)
  go_simp
  go_at_call 24
  refine (equal_any xs[i0].l xs[j].l xs[i0].ad xs[j].ad xs[i0].nd xs[j].nd xs[i0].c xs[j].c _ ((HX.out.dead _ (List.getElem_mem hi0)).below HB.out) ((HX.out.dead _ (List.getElem_mem hj)).below HB.out) hshort).mono ?_
  rintro e wn ⟨rfl, hb⟩
  refine hK.out _ _ hb ?_
  clear hK K
  have HB := Lib.hid (HB.out.trans (hb.mono hs))
  have hs := Nat.le_trans hs hb.size
  refine Rest.take 11 4 rfl (by kernel_rfl) (by kernel_rfl) (by kernel_rfl) (fun _ _ _ h => h) (by rfl) (by rfl) (by intro x hx; go_simp <;> with_reducible rfl) (by simp only [Act.put, List.setIfInBounds_toArray, List.set_cons_zero, List.set_cons_succ] <;> rfl) ?_
  refine Rest.done (by kernel_rfl) ?_
  go_wp2
  go_ret
  exact ⟨rfl, HB.out⟩

/-- A slice of slices of numbers. -/
def Gis (w : World) (a : Option Addr) (n c : Nat) (gs : List (List Nat)) : Prop :=
  ∃ vs : List Value, Sl w 1 a n c vs ∧ vs.length = gs.length ∧ ∀ (i : Nat) (g : List Nat), gs[i]? = some g → ∃ a1 n1 c1, vs[i]? = some (Value.slice a1 n1 c1) ∧ Sl w 1 a1 n1 c1 (ic g)
theorem Gis.below {w w' : World} {a : Option Addr} {n c : Nat} {gs : List (List Nat)} (h : Gis w a n c gs) (hb : Below w.heap.size w w') : Gis w' a n c gs := by
  obtain ⟨vs, h1, h2, h3⟩ := h
  refine ⟨vs, h1.below hb, h2, fun i l hl => ?_⟩
  obtain ⟨a1, n1, c1, h4, h5⟩ := h3 i l hl
  exact ⟨a1, n1, c1, h4, h5.below hb⟩
theorem Gis.len {w : World} {a : Option Addr} {n c : Nat} {gs : List (List Nat)} (h : Gis w a n c gs) : gs.length = n := by
  obtain ⟨vs, h1, h2, h3⟩ := h
  have := h1.len
  omega
theorem Gis.cap {w : World} {a : Option Addr} {n c : Nat} {gs : List (List Nat)} (h : Gis w a n c gs) : n ≤ c := by
  obtain ⟨vs, h1, h2, h3⟩ := h
  exact h1.cap
theorem Gis.at {w : World} {a : Option Addr} {n c : Nat} {gs : List (List Nat)} (h : Gis w a n c gs) {i : Nat} (hi : i < gs.length) :
    ∃ b off a1 n1 c1, a = some ⟨b, off, none⟩ ∧ w.cell? ⟨b, off + i, none⟩ = some (.slice a1 n1 c1) ∧ Sl w 1 a1 n1 c1 (ic gs[i]) := by
  obtain ⟨vs, h1, h2, h3⟩ := h
  obtain ⟨a1, n1, c1, h4, h5⟩ := h3 i gs[i] (by rw [List.getElem?_eq_getElem hi])
  obtain ⟨b, off, ha, hc⟩ := h1.at (k := i) (by omega)
  have := hc i (by omega)
  rw [List.getElem?_eq_getElem (by omega)] at h4
  rw [Option.some.inj h4] at this
  exact ⟨b, off, a1, n1, c1, ha, this, h5⟩

/-- The i-th label. -/
def lbz : Lb := ⟨0, 0, 0, 0, 0, 0, 0, 0, 0, 0, 0, 0, 0, 0, 0, [], 0, 0, 0⟩
def lab (xs : List LL) (i : Nat) : Lb := (xs[i]?.map LL.l).getD lbz
theorem lab_lt {xs : List LL} {i : Nat} (h : i < xs.length) : lab xs i = xs[i].l := by unfold lab; rw [List.getElem?_eq_getElem h]; rfl
/-- Is the group the one of label j? -/
def mates (xs : List LL) (j : Nat) (g : List Nat) : Bool := decide ((lab xs (g.headD 0)).equal (lab xs j))
/-- The labels are short, the numbers of a group are indices. -/
def GrOk (xs : List LL) (g : List Nat) : Prop := g ≠ [] ∧ ∀ i ∈ g, i < xs.length

set_option maxRecDepth 100000 in
set_option maxHeartbeats 1600000 in
theorem indexFunc_any (xs : List LL) (a : Option Addr) (n c : Nat) (gs : List (List Nat)) (ag : Option Addr) (ng cg : Nat) (BL BJ j : Nat) (w : World) (hX : Lbs w a n c xs) (hG : Gis w ag ng cg gs) (hj : j < xs.length)
    (hok : ∀ g ∈ gs, GrOk xs g) (hshort : ∀ x ∈ xs, x.l.dead.length ≤ 1000000) (hn6 : n ≤ 1000) (hng : ng ≤ 1000) (hBL : w.cell? ⟨BL, 0, none⟩ = some (.slice a n c)) (hBJ : w.cell? ⟨BJ, 0, none⟩ = some (.int .i64 (j : Int))) :
    Calls Try.prog 39 #[.slice ag ng cg, .func (.func 40) #[] #[.pointer (some ⟨BL, 0, none⟩), .pointer (some ⟨BJ, 0, none⟩)]] w fun e w' =>
      ∃ r : Int, e = .returned (.int .i64 r) ∧ ((r = -1 ∧ ∀ g ∈ gs, mates xs j g = false) ∨ (∃ k : Nat, r = (k : Int) ∧ ∃ hk : k < gs.length, mates xs j gs[k] = true ∧ ∀ k' (h : k' < k), mates xs j (gs[k']'(by omega)) = false)) ∧ Below w.heap.size w w' := by
  have hlen := hG.len
  have hcapG := hG.cap
  have HX := Lib.hid hX
  have HG := Lib.hid hG
  have HOK := Lib.hid hok
  have HSH := Lib.hid hshort
  have HLEN := Lib.hid hlen
  have HBL := Lib.hid hBL
  have HBJ := Lib.hid hBJ
  clear hX hG hok hshort hlen hBL hBJ
  go_enter Try.func39, Try.ntmps39
  go_wp2
  go_loopw [8] (fun iv wr => ∃ i : Nat, iv = .int .i64 (i : Int) ∧ i ≤ ng ∧ Hid (∀ k (h : k < i) (h2 : k < gs.length), mates xs j gs[k] = false) ∧ Hid (Below w.heap.size w wr)) (fun iv _ => ng - (intOf iv).toNat)
  case atStart => exact ⟨0, rfl, by omega, Lib.hid (fun k h => by omega), Lib.hid (Below.refl _ _)⟩
  case round =>
    obtain ⟨i, rfl, hin, HNO, HBW⟩ := hrel
    by_cases hi : i < ng
    · have hiI : (i : Int) < ng := by omega
      have hi0 : (0 : Int) ≤ (i : Int) := by omega
      have hig : i < gs.length := by have := HLEN.out; omega
      obtain ⟨b, off, a1, n1, c1, ha, hc, hs⟩ := (HG.out.below HBW.out).at hig
      subst ha
      have HS := Lib.hid hs
      have hok := HOK.out _ (List.getElem_mem hig)
      obtain ⟨i0, hi0v⟩ : ∃ i0, gs[i][0]? = some i0 := by
        rcases hgi : gs[i] with _ | ⟨y, ys⟩
        · exact (hok.1 hgi).elim
        · exact ⟨y, rfl⟩
      have hhd : gs[i].headD 0 = i0 := by rcases hgi : gs[i] with _ | ⟨y, ys⟩ <;> rw [hgi] at hi0v <;> simp at hi0v ⊢; exact hi0v
      have hi0l : i0 < xs.length := hok.2 _ (List.mem_of_getElem? hi0v)
      obtain ⟨M, hM⟩ : ∃ M, M = mates xs j gs[i] := ⟨_, rfl⟩
      have hM2 : decide (xs[i0].l.equal xs[j].l) = M := by rw [hM]; unfold mates; rw [hhd, lab_lt hi0l, lab_lt hj]
      have HC := Lib.hid (same_any xs a n c gs[i] a1 n1 c1 BL BJ j wr (HX.out.below HBW.out) HS.out i0 hi0v hi0l hj (HSH.out _ (List.getElem_mem hi0l)) hn6 (below_cell HBW.out (World.block_lt_of_cell? w _ HBL.out) HBL.out) (below_cell HBW.out (World.block_lt_of_cell? w _ HBJ.out) HBJ.out))
      rw [hM2] at HC
      have HM := Lib.hid hM
      clear hs hok hi0v hhd hM hM2
      cases M with
      | true =>
        go_wp2_with (go_at_call 40; refine HC.out.mono ?_; rintro e w1 ⟨rfl, hb⟩; have HB1 := Lib.hid (HBW.out.trans (hb.mono HBW.out.size)); clear hb)
        go_ret
        exact ⟨i, rfl, .inr ⟨i, rfl, hig, HM.out.symm, fun k' h => HNO.out k' h (by omega)⟩, HB1.out⟩
      | false =>
        go_wp2_with (go_at_call 40; refine HC.out.mono ?_; rintro e w1 ⟨rfl, hb⟩; have HB1 := Lib.hid (HBW.out.trans (hb.mono HBW.out.size)); clear hb)
        go_roundw
        case rel =>
          refine ⟨i + 1, by go_num, by omega, Lib.hid (fun k h h2 => ?_), HB1⟩
          by_cases hki : k < i
          · exact HNO.out k hki h2
          · obtain rfl : k = i := by omega
            exact HM.out.symm
        case measure => simp [intOf]; omega
    · have hiI : ¬ (i : Int) < ng := by omega
      obtain rfl : ng = i := by omega
      go_wp2
      go_ret
      refine ⟨-1, rfl, .inl ⟨rfl, fun g hg => ?_⟩, HBW.out⟩
      obtain ⟨k, hk, rfl⟩ := List.getElem_of_mem hg
      exact HNO.out k (by have := HLEN.out; omega) hk

end Go.Proofs.Ytgpfjinkmagelaa
