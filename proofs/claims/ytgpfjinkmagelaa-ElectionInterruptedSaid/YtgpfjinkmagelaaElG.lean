/- Elections: election.choose. (Printed by el7.py.) -/
import Derived.Test.YtgpfjinkmagelaaElE
import Derived.Test.YtgpfjinkmagelaaElF
set_option linter.unusedVariables false
set_option linter.unusedSimpArgs false
namespace Go.Proofs.Ytgpfjinkmagelaa
open Go Go.RowKit Go.Lib

def lowL (xs : List LL) (g : List Nat) : Int := minL (g.map fun i => (lab xs i).dk)
def betterG (xs : List LL) (b s : List Nat) : Bool := decide (s.length > b.length) || (decide (s.length = b.length) && decide (lowL xs s < lowL xs b))
def bestG (xs : List LL) : List (List Nat) → List Nat
  | [] => []
  | g :: gs => gs.foldl (fun b s => if betterG xs b s then s else b) g
theorem bestG_step (xs : List LL) (g0 s : List Nat) (l : List (List Nat)) : bestG xs (g0 :: (l ++ [s])) = if betterG xs (bestG xs (g0 :: l)) s then s else bestG xs (g0 :: l) := by
  show List.foldl _ _ _ = _
  rw [List.foldl_append]
  rfl
def amongL (xs : List LL) (gs : List (List Nat)) : List (List Nat) := if gs.filter (outG xs gs) = [] then gs else gs.filter (outG xs gs)
def chooseL (xs : List LL) (l : List Nat) : Nat := (bestG xs (amongL xs (sidesL xs l))).headD 0

theorem addSide_len {xs : List LL} {gs : List (List Nat)} {j m : Nat} (h : ∀ g ∈ gs, g.length ≤ m) (h2 : gs.length ≤ m) : (∀ g ∈ addSide xs gs j, g.length ≤ m + 1) ∧ (addSide xs gs j).length ≤ m + 1 := by
  unfold addSide
  split
  · rename_i k hk
    have hkl : k < gs.length := by
      have := List.findIdx?_eq_some_iff_getElem.1 hk
      exact this.1
    refine ⟨fun g hg => ?_, by rw [List.length_set]; omega⟩
    rcases List.mem_or_eq_of_mem_set hg with hg | rfl
    · have := h g hg; omega
    · have := h gs[k] (List.getElem_mem hkl)
      simp [List.getD, hkl]
      exact this
  · refine ⟨fun g hg => ?_, by rw [List.length_append]; simpa using h2⟩
    rcases List.mem_append.1 hg with hg | hg
    · have := h g hg; omega
    · obtain rfl := List.mem_singleton.1 hg; simp
theorem sidesOf_len {xs : List LL} : ∀ (n : Nat) (l : List Nat), l.length = n → (∀ g ∈ sidesOf xs l, g.length ≤ n) ∧ (sidesOf xs l).length ≤ n
  | 0, l, h => by
    rw [List.eq_nil_of_length_eq_zero h]
    exact ⟨by simp [sidesOf], by simp [sidesOf]⟩
  | n + 1, l, h => by
    have hne : l ≠ [] := by rintro rfl; simp at h
    have hl := List.dropLast_concat_getLast hne
    have := sidesOf_len (xs := xs) n l.dropLast (by rw [List.length_dropLast]; omega)
    rw [← hl, sidesOf_add]
    exact addSide_len this.1 this.2
theorem sidesL_len {xs : List LL} {l : List Nat} : (∀ g ∈ sidesL xs l, g.length ≤ l.length) ∧ (sidesL xs l).length ≤ l.length := by
  have h := sidesOf_len (xs := xs) _ (topL xs (newestL xs l) l) rfl
  have h2 : (topL xs (newestL xs l) l).length ≤ l.length := List.length_filter_le _ _
  exact ⟨fun g hg => Nat.le_trans (h.1 g hg) h2, Nat.le_trans h.2 h2⟩

theorem run_sliceOpL {o : Oper} {ρ : Operand → Value} {t : TypeId} {x lo : Operand} {vx vlo v : Value} {w : World} (ho : o.op = .slice t x (some lo) none none) (hx : ρ x = vx) (hlo : ρ lo = vlo)
    (ht : Try.prog.underlying t = some (.slice (Try.prog.elem t))) (hr : (Instr.slice t vx (some vlo) none none).run Try.prog w = .ok v w) : (execOp ρ o).run Try.prog w = .ok (.value v) w := by
  unfold execOp
  rw [ho]
  simp only [hx, hlo, Option.map_some, Option.map_none, Sem.run_bind, run_sliceAt_slice w t vx _ _ _ ht, hr, Result.andThen_ok, Sem.run_pure]
theorem info_side : (Try.prog.info? 56).map (fun i => (i.zero, i.size, i.bytes)) = some (some (.slice none 0 0), 1, 24) := by kernel_rfl

/-- A row of the call's own of headers that read elsewhere. -/
def RowG (w w1 : World) (base : Nat) (v : Value) (gs : List (List Nat)) : Prop :=
  ∃ vs : List Value, w.ownsRow base 56 1 v gs.length vs ∧ ∀ (i : Nat) (g : List Nat), gs[i]? = some g → ∃ a1 n1 c1, vs[i]? = some (Value.slice a1 n1 c1) ∧ Sl w1 1 a1 n1 c1 (ic g)
theorem RowG.gis {w w1 : World} {base n c : Nat} {a : Option Addr} {gs : List (List Nat)} (h : RowG w w1 base (.slice a n c) gs) (hb : Below w1.heap.size w1 w) : Gis w a n c gs := by
  obtain ⟨vs, h1, h2⟩ := h
  have hlen : vs.length = gs.length := by have := h1.1; omega
  have hone : ∀ u ∈ vs, u.oneCell' = true := by
    intro u hu
    obtain ⟨i, hi, rfl⟩ := List.getElem_of_mem hu
    obtain ⟨a1, n1, c1, h3, _⟩ := h2 i gs[i] (by rw [List.getElem?_eq_getElem (by omega)])
    rw [List.getElem?_eq_getElem hi] at h3
    rw [Option.some.inj h3]
    rfl
  obtain ⟨h4, h5⟩ := Sl.of_owns h1 hone
  refine ⟨vs, h5, hlen, fun i l hl => ?_⟩
  obtain ⟨a1, n1, c1, h6, h7⟩ := h2 i l hl
  exact ⟨a1, n1, c1, h6, h7.below hb⟩
theorem RowG.push {w w1 w2 : World} {base : Nat} {v v' : Value} {gs : List (List Nat)} {g : List Nat} {a2 : Option Addr} {n2 c2 : Nat} {vs : List Value} (h1 : w.ownsRow base 56 1 v gs.length vs)
    (h2 : ∀ (i : Nat) (g : List Nat), gs[i]? = some g → ∃ a1 n1 c1, vs[i]? = some (Value.slice a1 n1 c1) ∧ Sl w1 1 a1 n1 c1 (ic g))
    (hown : w2.ownsRow base 56 1 v' (gs.length + 1) (vs ++ [.slice a2 n2 c2])) (hs : Sl w1 1 a2 n2 c2 (ic g)) : RowG w2 w1 base v' (gs ++ [g]) := by
  have hlen : vs.length = gs.length := by have := h1.1; omega
  refine ⟨_, by simpa using hown, fun i m hm => ?_⟩
  by_cases hi : i < gs.length
  · rw [List.getElem?_append_left hi] at hm
    obtain ⟨a1, n1, c1, h3, h4⟩ := h2 i m hm
    exact ⟨a1, n1, c1, by rw [List.getElem?_append_left (by omega)]; exact h3, h4⟩
  · have : i = gs.length := by
      have := (List.getElem?_eq_some_iff.1 hm).1
      simp at this
      omega
    subst this
    rw [List.getElem?_append_right (Nat.le_refl _), Nat.sub_self] at hm
    obtain rfl : g = m := by simpa using hm
    exact ⟨a2, n2, c2, by rw [← hlen, List.getElem?_append_right (Nat.le_refl _), Nat.sub_self]; rfl, hs⟩

set_option maxRecDepth 100000 in
set_option maxHeartbeats 6400000 in
theorem choose_any (xs : List LL) (a : Option Addr) (n c : Nat) (cand : List Nat) (ac : Option Addr) (nc cc : Nat) (w : World) (hX : Lbs w a n c xs) (hC : Sl w 1 ac nc cc (ic cand)) (hok : ∀ i ∈ cand, i < xs.length) (hnd : cand.Nodup)
    (hdk : ∀ i ∈ cand, 0 ≤ (lab xs i).dk) (hshort : ∀ x ∈ xs, x.l.dead.length ≤ 1000000) (hn6 : n ≤ 1000) (hnc : nc ≤ 500) (hne : sidesL xs cand ≠ []) :
    Calls Try.prog 23 #[.slice a n c, .slice ac nc cc] w fun e w' => e = .returned (.int .i64 (chooseL xs cand : Int)) ∧ Below w.heap.size w w' := by
  have hncl : cand.length = nc := by have := hC.len; rw [ic_length] at this; omega
  obtain ⟨gs, hgs⟩ : ∃ gs, gs = sidesL xs cand := ⟨_, rfl⟩
  have hSD := sides_any xs a n c cand ac nc cc w hX hC hok hnd hshort hn6 hnc
  rw [← hgs] at hSD hne
  have hgl := sidesL_len (xs := xs) (l := cand)
  rw [← hgs, hncl] at hgl
  have HSD := Lib.hid hSD
  have HX0 := Lib.hid hX
  have HOK := Lib.hid hok
  have HDK := Lib.hid hdk
  have HSH := Lib.hid hshort
  have HGS := Lib.hid hgs
  have HNE := Lib.hid hne
  have HGL := Lib.hid hgl
  clear hX hC hok hnd hdk hshort hgs hne hgl hSD hncl
  go_enter Try.func23, Try.ntmps23
  refine wp_seq_k (fun K0 hK0 => ?_)
  refine Lin.begin ?_
  refine Lin.take 4 rfl rfl (by go_simp <;> with_reducible rfl) (by simp only [Act.put, List.setIfInBounds_toArray, List.set_cons_zero, List.set_cons_succ] <;> rfl) ?_
  refine Lin.done (hK0 _ _ ?_)
  refine wp_seq_k (fun K1 hK1 => ?_)
  refine Lin.begin ?_
  refine Lin.take 12 rfl rfl (by go_simp <;> with_reducible rfl) (by simp only [Act.put, List.setIfInBounds_toArray, List.set_cons_zero, List.set_cons_succ] <;> rfl) ?_
  refine Lin.take 13 rfl rfl (by go_simp <;> with_reducible rfl) (by simp only [Act.put, List.setIfInBounds_toArray, List.set_cons_zero, List.set_cons_succ] <;> rfl) ?_
  refine Lin.enterS 14 rfl rfl (by go_simp <;> (first | exact ⟨rfl, rfl⟩ | rfl)) HSD.out ?_
  rintro ag ng cg w1 ⟨hG1, hgo, hb1⟩ aa ha; simp only [Act.put, List.setIfInBounds_toArray, List.set_cons_zero, List.set_cons_succ] at ha; subst ha
  have HG := Lib.hid hG1; have HGO := Lib.hid hgo; have HB1 := Lib.hid hb1; have HX := Lib.hid (HX0.out.below hb1)
  clear hG1 hgo hb1
  refine Lin.take 5 rfl rfl (by go_simp <;> with_reducible rfl) (by simp only [Act.put, List.setIfInBounds_toArray, List.set_cons_zero, List.set_cons_succ] <;> rfl) ?_
  refine Lin.done (hK1 _ _ ?_)
  refine wp_seq_k (fun K2 hK2 => ?_)
  refine Lin.begin ?_
  refine Lin.take 6 rfl rfl (by go_simp <;> with_reducible rfl) (by simp only [Act.put, List.setIfInBounds_toArray, List.set_cons_zero, List.set_cons_succ] <;> rfl) ?_
  refine Lin.done (hK2 _ _ ?_)
  refine wp_seq_k (fun K3 hK3 => ?_)
  have HK3 := Lib.hid hK3
  clear hK0 hK1 hK2 hK3 K0 K1 K2
  go_wp2
  have hngl := HG.out.len
  have hcapG := HG.out.cap
  have hng6 : ng ≤ 500 := by have := HGL.out.2; omega
  have HGR : Hid (∀ q ∈ gs, GrOk xs q ∧ q.length ≤ 500) := Lib.hid fun q hq => ⟨⟨(HGO.out.mem q hq).1, fun x hx => HOK.out x ((HGO.out.mem q hq).2 x hx)⟩, by have := HGL.out.1 q hq; omega⟩
  have HOU : Hid (∀ z, Below w1.heap.size w1 z → ∀ s aS ns cs, Sl w1 1 aS ns cs (ic s) → s ∈ gs → Calls Try.prog 32 #[.slice a n c, .slice ag ng cg, .slice aS ns cs] z fun e w' => e = .returned (.bool (outG xs gs s)) ∧ Below z.heap.size z w') := by
    refine Lib.hid fun z hz s aS ns cs hs hsm => outlives_any xs a n c gs ag ng cg s aS ns cs z (HX.out.below hz) (HG.out.below hz) (hs.below hz) (fun q hq => (HGR.out q hq).1) (HGR.out s hsm).1 (fun i hi => ?_) HSH.out hn6 (by omega) (fun q hq => by have := (HGR.out q hq).2; omega) (by have := (HGR.out s hsm).2; omega)
    by_cases hic : i ∈ cand
    · exact .inl (HDK.out i hic)
    · exact .inr fun g hg hig => hic ((HGO.out.mem g hg).2 i hig)
  have HNG := Lib.hid hngl
  clear hngl HSD HX0
  go_loopw [6, 17] (fun v iv wr => ∃ (i : Nat) (a1 : Option Addr) (n1 c1 : Nat), iv = .int .i64 (i : Int) ∧ i ≤ ng ∧ v = .slice a1 n1 c1 ∧ n1 ≤ i ∧ Hid (n1 = ((gs.take i).filter (outG xs gs)).length) ∧ Hid (RowG wr w1 w1.heap.size (.slice a1 n1 c1) ((gs.take i).filter (outG xs gs))) ∧ Hid (Below w1.heap.size w1 wr) ∧ w1.heap.size ≤ wr.heap.size) (fun _ iv _ => ng - (intOf iv).toNat)
  case atStart => exact ⟨0, none, 0, 0, rfl, by omega, rfl, by omega, Lib.hid rfl, Lib.hid ⟨[], World.ownsRow_nil _ _ _ _, fun i g h => by simp at h⟩, Lib.hid (Below.refl _ _), Nat.le_refl _⟩
  case round =>
  obtain ⟨i, a1, n1, c1, rfl, hin, rfl, hn1i, HN1, HR, HBW, hbs⟩ := hrel
  by_cases hi : i < ng
  · have hiI : (i : Int) < ng := by omega
    have hi0 : (0 : Int) ≤ (i : Int) := by omega
    have hig : i < gs.length := by have := HNG.out; omega
    obtain ⟨b, off, a2, n2, c2, ha, hc1, hS⟩ := HG.out.at hig
    have hc := below_cell HBW.out (World.block_lt_of_cell? w1 _ hc1) hc1
    have hfl : (gs.take (i + 1)).filter (outG xs gs) = (gs.take i).filter (outG xs gs) ++ (if outG xs gs gs[i] then [gs[i]] else []) := by
      rw [List.take_succ_eq_append_getElem hig, List.filter_append]
      congr 1
      by_cases h9 : outG xs gs gs[i] <;> simp [h9]
    have HC := Lib.hid (HOU.out wr HBW.out gs[i] a2 n2 c2 hS (List.getElem_mem hig))
    obtain ⟨s, hse⟩ : ∃ s, s = gs[i] := ⟨_, rfl⟩
    rw [← hse] at hS hfl HC
    obtain ⟨O, hO⟩ : ∃ O, O = outG xs gs s := ⟨_, rfl⟩
    rw [← hO] at hfl HC
    have HFL := Lib.hid hfl
    have HS := Lib.hid hS
    obtain ⟨vs, hv1, hv2⟩ := HR.out
    rw [← HN1.out] at hv1
    have HV2 := Lib.hid hv2
    subst ha
    clear hS hfl hse hO hc1 hv2
    cases O with
    | false =>
      go_wp2_with (go_at_call 32; refine HC.out.mono ?_; rintro e w2 ⟨rfl, hb2⟩; have HB2 := Lib.hid hb2; replace hv1 := owns_belowI hv1 hb2; clear hb2)
      go_roundw
      case rel =>
        refine ⟨i + 1, a1, n1, c1, by go_num, by omega, rfl, by omega, Lib.hid ?_, Lib.hid ?_, Lib.hid (HBW.out.trans (HB2.out.mono hbs)), Nat.le_trans hbs HB2.out.size⟩
        · rw [HFL.out]; simpa using HN1.out
        · rw [HFL.out]
          simp only [Bool.false_eq_true, if_false, List.append_nil]
          exact ⟨vs, by rw [← HN1.out]; exact hv1, HV2.out⟩
      case measure => simp [intOf]; omega
    | true =>
      go_wp2_with (first | (go_at_call 32; refine HC.out.mono ?_; rintro e w2 ⟨rfl, hb2⟩; have HB2 := Lib.hid hb2; have hs2 := hb2.size; replace hv1 := owns_belowI hv1 hb2; clear hb2) | (at_builtin; refine wpList_appendT _ 56 (.slice none 0 0) 24 (by kernel_rfl) rfl (by decide) rfl _ _ Try.underlying54 rfl w1.heap.size _ n1 vs rfl (hv1.alloc _) _ 1 1 _ rfl (Sl.single _ _ _ rfl) ?h1 ?h2 ?h3))
      case h1 => omega
      case h2 => (try simp); omega
      case h3 =>
        intro a3 c3 w3 hown3 hg3
        go_wp2
        go_roundw
        case rel =>
          refine ⟨i + 1, a3, n1 + 1, c3, by go_num, by omega, rfl, by omega, Lib.hid ?_, Lib.hid ?_, Lib.hid (((HBW.out.trans (HB2.out.mono hbs)).alloc (by omega) _).grown hg3 (by simp; omega) (fun j hj => (hv1.lt j hj).1)), by have := hg3.size; simp at this; omega⟩
          · rw [HFL.out]; simp [HN1.out]
          · rw [HFL.out]
            simp only [if_true]
            exact RowG.push (by rw [← HN1.out]; exact hv1) HV2.out (by rw [← HN1.out]; exact hown3) HS.out
        case measure => simp [intOf]; omega
  · have hiI : ¬ (i : Int) < ng := by omega
    obtain rfl : ng = i := by omega
    have hgt : gs.take ng = gs := List.take_of_length_le (by have := HNG.out; omega)
    rw [hgt] at HN1 HR
    go_wp2
    refine HK3.out _ _ ?_
    refine wp_seq_k (fun KA hKA => ?_)
    refine wp_seq_k (fun KB hKB => ?_)
    rename World => wN
    have HBN := HBW
    have HGA := Lib.hid (HR.out.gis HBW.out)
    have HGN := Lib.hid (HG.out.below HBW.out)
    clear hgt HR HBW HG hcapG
    by_cases hz : n1 = 0
    · have hzI : (n1 : Int) = 0 := by omega
      have hfn : gs.filter (outG xs gs) = [] := List.eq_nil_of_length_eq_zero (by rw [← HN1.out]; exact hz)
      obtain ⟨am, hamE⟩ : ∃ am, am = gs := ⟨_, rfl⟩
      have HAM : Hid (am = amongL xs gs) := Lib.hid (by rw [hamE]; unfold amongL; rw [if_pos hfn])
      have HAMN : Hid (am ≠ []) := by rw [hamE]; exact HNE
      have HAMO : Hid (∀ q ∈ am, GrOk xs q ∧ q.length ≤ 500) := by rw [hamE]; exact HGR
      obtain ⟨aM, haM⟩ : ∃ aM, aM = ag := ⟨_, rfl⟩
      obtain ⟨nM, hnM⟩ : ∃ nM, nM = ng := ⟨_, rfl⟩
      obtain ⟨cM, hcM⟩ : ∃ cM, cM = cg := ⟨_, rfl⟩
      have HNM6 : Hid (nM ≤ 500) := by rw [hnM]; exact Lib.hid hng6
      have HGM : Hid (Gis wN aM nM cM am) := by rw [hamE, haM, hnM, hcM]; exact HGN
      rw [← haM, ← hnM, ← hcM]
      clear haM hnM hcM hamE hfn HN1 HGA HGN hn1i hin hiI hng6
      refine Lin.begin ?_
      refine Lin.take 30 rfl rfl (by go_simp <;> with_reducible rfl) (by simp only [Act.put, List.setIfInBounds_toArray, List.set_cons_zero, List.set_cons_succ] <;> rfl) ?_
      refine Lin.take 31 rfl rfl (by go_simp <;> with_reducible rfl) (by simp only [Act.put, List.setIfInBounds_toArray, List.set_cons_zero, List.set_cons_succ] <;> rfl) ?_
      refine Lin.take 32 (v := .bool true) rfl rfl (by go_simp <;> with_reducible rfl) (by simp only [Act.put, List.setIfInBounds_toArray, List.set_cons_zero, List.set_cons_succ] <;> rfl) ?_
      refine Lin.done (hKB _ _ ?_)
      refine wp_cond_true rfl ?_
      refine Lin.begin ?_
      refine Lin.take 33 rfl rfl (by go_simp <;> with_reducible rfl) (by simp only [Act.put, List.setIfInBounds_toArray, List.set_cons_zero, List.set_cons_succ] <;> rfl) ?_
      refine Lin.take 6 rfl rfl (by go_simp <;> with_reducible rfl) (by simp only [Act.put, List.setIfInBounds_toArray, List.set_cons_zero, List.set_cons_succ] <;> rfl) ?_
      refine Lin.done (hKA _ _ ?_)
      clear hKB KB
      have hM6 : nM ≤ 500 := HNM6.out
      have hcM := HGM.out.cap
      have HGML := Lib.hid HGM.out.len
      obtain ⟨g0, am', hame⟩ := List.exists_cons_of_ne_nil HAMN.out
      obtain ⟨vsM, hvM, hvl, hvi⟩ := HGM.out
      obtain ⟨aF, nF, cF, hF1, hF2⟩ := hvi 0 g0 (by rw [hame]; rfl)
      have hvl0 : 0 < vsM.length := by rw [hvl, hame]; simp
      obtain ⟨bM, oM, haM, hcellM⟩ := hvM.at (k := 0) hvl0
      have hcM0 := hcellM 0 hvl0
      rw [List.getElem?_eq_getElem hvl0] at hF1
      rw [Option.some.inj hF1, Nat.add_zero] at hcM0
      have hMpos : 0 < nM := by have := hvM.len; omega
      have hMI : (0 : Int) < nM := by omega
      obtain ⟨i0, hi0, hz0, hz1, hz2⟩ := info_parts info_side
      obtain ⟨aT, eT, sT⟩ := hvM.run_l (P := Try.prog) 54 56 i0 Try.underlying54 rfl hi0 hz1 .i64 1 (by omega)
      obtain ⟨nT, hnTe⟩ : ∃ nT, nT = nM - 1 := ⟨_, rfl⟩
      obtain ⟨cT, hcTe⟩ : ∃ cT, cT = cM - 1 := ⟨_, rfl⟩
      rw [← hnTe, ← hcTe] at eT sT
      have HGT : Hid (Gis wN aT nT cT am') := by
        refine Lib.hid ⟨_, sT, by rw [List.length_drop, hvl, hame]; simp, fun i g hg => ?_⟩
        obtain ⟨a9, n9, c9, h9, h10⟩ := hvi (i + 1) g (by rw [hame]; simpa using hg)
        exact ⟨a9, n9, c9, by rw [List.getElem?_drop, Nat.mul_one, Nat.add_comm]; exact h9, h10⟩
      have HF2 := Lib.hid hF2
      have HAE := Lib.hid hame
      have hnT6 : nT ≤ 500 := by omega
      subst haM
      clear hvM hvl hvi hF1 hF2 hvl0 hcellM hi0 hz0 hz1 hz2 sT hame HGM hnTe hcTe
      refine wp_seq_k (fun KC hKC => ?_)
      refine Lin.begin ?_
      refine Lin.take 34 rfl rfl (by go_simp <;> with_reducible rfl) (by simp only [Act.put, List.setIfInBounds_toArray, List.set_cons_zero, List.set_cons_succ] <;> rfl) ?_
      refine Lin.take 35 rfl rfl (by have h1 := hMpos; have h2 := hcM; go_simp <;> with_reducible rfl) (by simp only [Act.put, List.setIfInBounds_toArray, List.set_cons_zero, List.set_cons_succ] <;> rfl) ?_
      refine Lin.take 36 rfl rfl (by have hc := hcM0; go_simp <;> with_reducible rfl) (by simp only [Act.put, List.setIfInBounds_toArray, List.set_cons_zero, List.set_cons_succ] <;> rfl) ?_
      refine Lin.take 9 rfl rfl (by go_simp <;> with_reducible rfl) (by simp only [Act.put, List.setIfInBounds_toArray, List.set_cons_zero, List.set_cons_succ] <;> rfl) ?_
      refine Lin.done (hKC _ _ ?_)
      refine wp_seq_k (fun KD hKD => ?_)
      have HKD := Lib.hid hKD
      clear hKA hKC hKD KA KC
      refine wp_seq_k (fun KE hKE => ?_)
      refine Lin.begin ?_
      refine Lin.take 37 rfl rfl (by go_simp <;> with_reducible rfl) (by simp only [Act.put, List.setIfInBounds_toArray, List.set_cons_zero, List.set_cons_succ] <;> rfl) ?_
      refine Lin.take 38 (v := .slice aT nT cT) rfl rfl (run_sliceOpL rfl rfl rfl Try.underlying54 (eT _)) (by simp only [Act.put, List.setIfInBounds_toArray, List.set_cons_zero, List.set_cons_succ] <;> rfl) ?_
      refine Lin.take 39 rfl rfl (by go_simp <;> with_reducible rfl) (by simp only [Act.put, List.setIfInBounds_toArray, List.set_cons_zero, List.set_cons_succ] <;> rfl) ?_
      refine Lin.take 40 rfl rfl (by go_simp <;> with_reducible rfl) (by simp only [Act.put, List.setIfInBounds_toArray, List.set_cons_zero, List.set_cons_succ] <;> rfl) ?_
      refine Lin.done (hKE _ _ ?_)
      clear hKE KE eT hcM0
      go_wp2
      go_wp2
      go_loopw [9, 40] (fun bv iv wr => ∃ (i : Nat) (a1 : Option Addr) (n1 c1 : Nat) (b : List Nat), iv = .int .i64 (i : Int) ∧ i ≤ nT ∧ bv = .slice a1 n1 c1 ∧ Hid (b = bestG xs (g0 :: am'.take i)) ∧ Hid (b ∈ am) ∧ Hid (Sl wr 1 a1 n1 c1 (ic b)) ∧ Hid (Below wN.heap.size wN wr)) (fun _ iv _ => nT - (intOf iv).toNat)
      case atStart => exact ⟨0, aF, nF, cF, g0, rfl, by omega, rfl, Lib.hid rfl, Lib.hid (by rw [HAE.out]; simp), HF2, Lib.hid (Below.refl _ _)⟩
      case round =>
      obtain ⟨i, a1, n1, c1, b, rfl, hin, rfl, HBE, HBM, HSB, HBW⟩ := hrel
      have hcap1 := HSB.out.cap
      have hn1l : n1 = b.length := by have := HSB.out.len; rw [ic_length] at this; omega
      have hbok := HAMO.out b HBM.out
      have hn16 : n1 ≤ 500 := by have := hbok.2; omega
      by_cases hi : i < nT
      · have hiI : (i : Int) < nT := by omega
        have hi0 : (0 : Int) ≤ (i : Int) := by omega
        have hil : i < am'.length := by have := HGT.out.len; omega
        have hcapT := HGT.out.cap
        obtain ⟨bT, oT, a2, n2, c2, haT, hcT, hS2⟩ := (HGT.out.below HBW.out).at hil
        have hstep : bestG xs (g0 :: am'.take (i + 1)) = if betterG xs (bestG xs (g0 :: am'.take i)) am'[i] then am'[i] else bestG xs (g0 :: am'.take i) := by
          rw [List.take_succ_eq_append_getElem hil, bestG_step]
        have hin2 : am'[i] ∈ am := by rw [HAE.out]; exact List.mem_cons_of_mem _ (List.getElem_mem hil)
        obtain ⟨s, hse⟩ : ∃ s, s = am'[i] := ⟨_, rfl⟩
        rw [← hse] at hS2 hstep hin2
        rw [← HBE.out] at hstep
        have hsok := HAMO.out s hin2
        have hn2l : n2 = s.length := by have := hS2.len; rw [ic_length] at this; omega
        have hn26 : n2 ≤ 500 := by have := hsok.2; omega
        have hcap2 := hS2.cap
        have hbt : betterG xs b s = (decide (n2 > n1) || (decide (n2 = n1) && decide (lowL xs s < lowL xs b))) := by rw [hn1l, hn2l]; rfl
        have HS2 := Lib.hid hS2
        have HST := Lib.hid hstep
        have HBT := Lib.hid hbt
        have HIN2 := Lib.hid hin2
        have HL1 := Lib.hid (lowest_any xs _ n c s a2 n2 c2 wr (HX.out.below ((HBN.out).trans (HBW.out.mono HBN.out.size))) hS2 hsok.1 hn6 (by omega))
        have HL2 : Hid (∀ z, Below wr.heap.size wr z → Calls Try.prog 33 #[.slice a n c, .slice a1 n1 c1] z fun e w' => e = .returned (.int .i64 (lowL xs b)) ∧ Below z.heap.size z w') := Lib.hid fun z hz => lowest_any xs _ n c b a1 n1 c1 z ((HX.out.below ((HBN.out).trans (HBW.out.mono HBN.out.size))).below hz) (HSB.out.below hz) hbok.1 hn6 (by omega)
        obtain ⟨x, hxe⟩ : ∃ x, x = lowL xs s := ⟨_, rfl⟩
        obtain ⟨y, hye⟩ : ∃ y, y = lowL xs b := ⟨_, rfl⟩
        rw [← hxe, ← hye] at HBT
        rw [← hye] at HL2
        have HL1' : Hid (Calls Try.prog 33 #[.slice a n c, .slice a2 n2 c2] wr fun e w' => e = .returned (.int .i64 x) ∧ Below wr.heap.size wr w') := by rw [hxe]; exact HL1
        subst haT
        clear hS2 hstep hbt hin2 hse hsok hxe hye HL1 hn1l hn2l hbok
        by_cases h1 : n2 > n1
        · have h1I : (n2 : Int) > n1 := by omega
          go_wp2
          go_roundw
          case rel => exact ⟨i + 1, a2, n2, c2, s, by go_num, by omega, rfl, Lib.hid (by rw [HST.out, HBT.out]; simp [h1]), HIN2, HS2, HBW⟩
          case measure => simp [intOf]; omega
        · have h1I : ¬ (n2 : Int) > n1 := by omega
          by_cases h2 : n2 = n1
          · subst h2
            by_cases hxy : x < y
            all_goals
              go_wp2_with (first | (go_at_call 33; refine HL1'.out.mono ?_; rintro e w7 ⟨rfl, hb7⟩; have HB7 := Lib.hid hb7; clear hb7) | (go_at_call 33; refine (HL2.out _ HB7.out).mono ?_; rintro e w8 ⟨rfl, hb8⟩; have HB8 := Lib.hid (HB7.out.trans (hb8.mono HB7.out.size)); clear hb8))
              go_roundw
              case measure => simp [intOf]; omega
              case rel => first | exact ⟨i + 1, a2, n2, c2, s, by go_num, by omega, rfl, Lib.hid (by rw [HST.out, HBT.out]; simp [hxy]), HIN2, Lib.hid (HS2.out.below HB8.out), Lib.hid (HBW.out.trans (HB8.out.mono HBW.out.size))⟩ | exact ⟨i + 1, a1, n2, c1, b, by go_num, by omega, rfl, Lib.hid (by rw [HST.out, HBT.out]; simp; intro h99; omega), HBM, Lib.hid (HSB.out.below HB8.out), Lib.hid (HBW.out.trans (HB8.out.mono HBW.out.size))⟩
          · have h2I : ¬ (n2 : Int) = n1 := by omega
            go_wp2
            go_roundw
            case rel => exact ⟨i + 1, a1, n1, c1, b, by go_num, by omega, rfl, Lib.hid (by rw [HST.out, HBT.out]; simp [h2]; omega), HBM, HSB, HBW⟩
            case measure => simp [intOf]; omega
      · have hiI : ¬ (i : Int) < nT := by omega
        obtain rfl : nT = i := by omega
        have hbn := hbok.1.1
        obtain ⟨b0, b', hbe⟩ := List.exists_cons_of_ne_nil hbn
        obtain ⟨bB, oB, haB, hcellB⟩ := HSB.out.at (k := 0) (by rw [ic_length, hbe]; simp)
        have hcB := hcellB 0 (by rw [ic_length, hbe]; simp)
        simp only [ic, List.getElem_map, Nat.add_zero] at hcB
        have hb0 : b[0]'(by rw [hbe]; simp) = b0 := by simp [hbe]
        rw [hb0] at hcB
        have hn10 : (0 : Int) < n1 := by rw [hn1l, hbe]; simp
        have hfin : chooseL xs cand = b0 := by
          have h1 := HBE.out
          rw [List.take_of_length_le (by have := HGT.out.len; omega), ← HAE.out, HAM.out] at h1
          unfold chooseL
          rw [← HGS.out, ← h1, hbe]
          rfl
        have HFIN := Lib.hid hfin
        subst haB
        clear hn1l hbok hbn hbe hcellB hb0 hfin
        go_wp2
        refine HKD.out _ _ ?_
        go_wp2
        go_ret
        rw [HFIN.out]
        exact ⟨rfl, HB1.out.trans ((HBN.out.trans (HBW.out.mono HBN.out.size)).mono HB1.out.size)⟩

    · have hzI : ¬ (n1 : Int) = 0 := by omega
      have hfn : gs.filter (outG xs gs) ≠ [] := fun h => hz (by rw [HN1.out, h]; rfl)
      obtain ⟨am, hamE⟩ : ∃ am, am = gs.filter (outG xs gs) := ⟨_, rfl⟩
      have HAM : Hid (am = amongL xs gs) := Lib.hid (by rw [hamE]; unfold amongL; rw [if_neg hfn])
      have HAMN : Hid (am ≠ []) := by rw [hamE]; exact Lib.hid hfn
      have HAMO : Hid (∀ q ∈ am, GrOk xs q ∧ q.length ≤ 500) := by rw [hamE]; exact Lib.hid fun q hq => HGR.out q (List.mem_filter.1 hq).1
      obtain ⟨aM, haM⟩ : ∃ aM, aM = a1 := ⟨_, rfl⟩
      obtain ⟨nM, hnM⟩ : ∃ nM, nM = n1 := ⟨_, rfl⟩
      obtain ⟨cM, hcM⟩ : ∃ cM, cM = c1 := ⟨_, rfl⟩
      have HNM6 : Hid (nM ≤ 500) := by rw [hnM]; exact Lib.hid (by omega)
      have HGM : Hid (Gis wN aM nM cM am) := by rw [hamE, haM, hnM, hcM]; exact HGA
      have hzM : ¬ nM = 0 := by rw [hnM]; exact hz
      rw [← haM, ← hnM, ← hcM]
      clear haM hnM hcM hamE hfn hz hzI HN1 HGA HGN hn1i hin hiI hng6
      refine Lin.begin ?_
      refine Lin.take 30 rfl rfl (by go_simp <;> with_reducible rfl) (by simp only [Act.put, List.setIfInBounds_toArray, List.set_cons_zero, List.set_cons_succ] <;> rfl) ?_
      refine Lin.take 31 rfl rfl (by go_simp <;> with_reducible rfl) (by simp only [Act.put, List.setIfInBounds_toArray, List.set_cons_zero, List.set_cons_succ] <;> rfl) ?_
      refine Lin.take 32 (v := .bool false) rfl rfl (by go_simp <;> with_reducible rfl) (by simp only [Act.put, List.setIfInBounds_toArray, List.set_cons_zero, List.set_cons_succ] <;> rfl) ?_
      refine Lin.done (hKB _ _ ?_)
      refine wp_cond_false rfl ?_
      refine wp_skip ?_
      refine hKA _ _ ?_
      clear hKB KB
      have hM6 : nM ≤ 500 := HNM6.out
      have hcM := HGM.out.cap
      have HGML := Lib.hid HGM.out.len
      obtain ⟨g0, am', hame⟩ := List.exists_cons_of_ne_nil HAMN.out
      obtain ⟨vsM, hvM, hvl, hvi⟩ := HGM.out
      obtain ⟨aF, nF, cF, hF1, hF2⟩ := hvi 0 g0 (by rw [hame]; rfl)
      have hvl0 : 0 < vsM.length := by rw [hvl, hame]; simp
      obtain ⟨bM, oM, haM, hcellM⟩ := hvM.at (k := 0) hvl0
      have hcM0 := hcellM 0 hvl0
      rw [List.getElem?_eq_getElem hvl0] at hF1
      rw [Option.some.inj hF1, Nat.add_zero] at hcM0
      have hMpos : 0 < nM := by have := hvM.len; omega
      have hMI : (0 : Int) < nM := by omega
      obtain ⟨i0, hi0, hz0, hz1, hz2⟩ := info_parts info_side
      obtain ⟨aT, eT, sT⟩ := hvM.run_l (P := Try.prog) 54 56 i0 Try.underlying54 rfl hi0 hz1 .i64 1 (by omega)
      obtain ⟨nT, hnTe⟩ : ∃ nT, nT = nM - 1 := ⟨_, rfl⟩
      obtain ⟨cT, hcTe⟩ : ∃ cT, cT = cM - 1 := ⟨_, rfl⟩
      rw [← hnTe, ← hcTe] at eT sT
      have HGT : Hid (Gis wN aT nT cT am') := by
        refine Lib.hid ⟨_, sT, by rw [List.length_drop, hvl, hame]; simp, fun i g hg => ?_⟩
        obtain ⟨a9, n9, c9, h9, h10⟩ := hvi (i + 1) g (by rw [hame]; simpa using hg)
        exact ⟨a9, n9, c9, by rw [List.getElem?_drop, Nat.mul_one, Nat.add_comm]; exact h9, h10⟩
      have HF2 := Lib.hid hF2
      have HAE := Lib.hid hame
      have hnT6 : nT ≤ 500 := by omega
      subst haM
      clear hvM hvl hvi hF1 hF2 hvl0 hcellM hi0 hz0 hz1 hz2 sT hame HGM hnTe hcTe
      refine wp_seq_k (fun KC hKC => ?_)
      refine Lin.begin ?_
      refine Lin.take 34 rfl rfl (by go_simp <;> with_reducible rfl) (by simp only [Act.put, List.setIfInBounds_toArray, List.set_cons_zero, List.set_cons_succ] <;> rfl) ?_
      refine Lin.take 35 rfl rfl (by have h1 := hMpos; have h2 := hcM; go_simp <;> with_reducible rfl) (by simp only [Act.put, List.setIfInBounds_toArray, List.set_cons_zero, List.set_cons_succ] <;> rfl) ?_
      refine Lin.take 36 rfl rfl (by have hc := hcM0; go_simp <;> with_reducible rfl) (by simp only [Act.put, List.setIfInBounds_toArray, List.set_cons_zero, List.set_cons_succ] <;> rfl) ?_
      refine Lin.take 9 rfl rfl (by go_simp <;> with_reducible rfl) (by simp only [Act.put, List.setIfInBounds_toArray, List.set_cons_zero, List.set_cons_succ] <;> rfl) ?_
      refine Lin.done (hKC _ _ ?_)
      refine wp_seq_k (fun KD hKD => ?_)
      have HKD := Lib.hid hKD
      clear hKA hKC hKD KA KC
      refine wp_seq_k (fun KE hKE => ?_)
      refine Lin.begin ?_
      refine Lin.take 37 rfl rfl (by go_simp <;> with_reducible rfl) (by simp only [Act.put, List.setIfInBounds_toArray, List.set_cons_zero, List.set_cons_succ] <;> rfl) ?_
      refine Lin.take 38 (v := .slice aT nT cT) rfl rfl (run_sliceOpL rfl rfl rfl Try.underlying54 (eT _)) (by simp only [Act.put, List.setIfInBounds_toArray, List.set_cons_zero, List.set_cons_succ] <;> rfl) ?_
      refine Lin.take 39 rfl rfl (by go_simp <;> with_reducible rfl) (by simp only [Act.put, List.setIfInBounds_toArray, List.set_cons_zero, List.set_cons_succ] <;> rfl) ?_
      refine Lin.take 40 rfl rfl (by go_simp <;> with_reducible rfl) (by simp only [Act.put, List.setIfInBounds_toArray, List.set_cons_zero, List.set_cons_succ] <;> rfl) ?_
      refine Lin.done (hKE _ _ ?_)
      clear hKE KE eT hcM0
      go_wp2
      go_wp2
      go_loopw [9, 40] (fun bv iv wr => ∃ (i : Nat) (a1 : Option Addr) (n1 c1 : Nat) (b : List Nat), iv = .int .i64 (i : Int) ∧ i ≤ nT ∧ bv = .slice a1 n1 c1 ∧ Hid (b = bestG xs (g0 :: am'.take i)) ∧ Hid (b ∈ am) ∧ Hid (Sl wr 1 a1 n1 c1 (ic b)) ∧ Hid (Below wN.heap.size wN wr)) (fun _ iv _ => nT - (intOf iv).toNat)
      case atStart => exact ⟨0, aF, nF, cF, g0, rfl, by omega, rfl, Lib.hid rfl, Lib.hid (by rw [HAE.out]; simp), HF2, Lib.hid (Below.refl _ _)⟩
      case round =>
      obtain ⟨i, a1, n1, c1, b, rfl, hin, rfl, HBE, HBM, HSB, HBW⟩ := hrel
      have hcap1 := HSB.out.cap
      have hn1l : n1 = b.length := by have := HSB.out.len; rw [ic_length] at this; omega
      have hbok := HAMO.out b HBM.out
      have hn16 : n1 ≤ 500 := by have := hbok.2; omega
      by_cases hi : i < nT
      · have hiI : (i : Int) < nT := by omega
        have hi0 : (0 : Int) ≤ (i : Int) := by omega
        have hil : i < am'.length := by have := HGT.out.len; omega
        have hcapT := HGT.out.cap
        obtain ⟨bT, oT, a2, n2, c2, haT, hcT, hS2⟩ := (HGT.out.below HBW.out).at hil
        have hstep : bestG xs (g0 :: am'.take (i + 1)) = if betterG xs (bestG xs (g0 :: am'.take i)) am'[i] then am'[i] else bestG xs (g0 :: am'.take i) := by
          rw [List.take_succ_eq_append_getElem hil, bestG_step]
        have hin2 : am'[i] ∈ am := by rw [HAE.out]; exact List.mem_cons_of_mem _ (List.getElem_mem hil)
        obtain ⟨s, hse⟩ : ∃ s, s = am'[i] := ⟨_, rfl⟩
        rw [← hse] at hS2 hstep hin2
        rw [← HBE.out] at hstep
        have hsok := HAMO.out s hin2
        have hn2l : n2 = s.length := by have := hS2.len; rw [ic_length] at this; omega
        have hn26 : n2 ≤ 500 := by have := hsok.2; omega
        have hcap2 := hS2.cap
        have hbt : betterG xs b s = (decide (n2 > n1) || (decide (n2 = n1) && decide (lowL xs s < lowL xs b))) := by rw [hn1l, hn2l]; rfl
        have HS2 := Lib.hid hS2
        have HST := Lib.hid hstep
        have HBT := Lib.hid hbt
        have HIN2 := Lib.hid hin2
        have HL1 := Lib.hid (lowest_any xs _ n c s a2 n2 c2 wr (HX.out.below ((HBN.out).trans (HBW.out.mono HBN.out.size))) hS2 hsok.1 hn6 (by omega))
        have HL2 : Hid (∀ z, Below wr.heap.size wr z → Calls Try.prog 33 #[.slice a n c, .slice a1 n1 c1] z fun e w' => e = .returned (.int .i64 (lowL xs b)) ∧ Below z.heap.size z w') := Lib.hid fun z hz => lowest_any xs _ n c b a1 n1 c1 z ((HX.out.below ((HBN.out).trans (HBW.out.mono HBN.out.size))).below hz) (HSB.out.below hz) hbok.1 hn6 (by omega)
        obtain ⟨x, hxe⟩ : ∃ x, x = lowL xs s := ⟨_, rfl⟩
        obtain ⟨y, hye⟩ : ∃ y, y = lowL xs b := ⟨_, rfl⟩
        rw [← hxe, ← hye] at HBT
        rw [← hye] at HL2
        have HL1' : Hid (Calls Try.prog 33 #[.slice a n c, .slice a2 n2 c2] wr fun e w' => e = .returned (.int .i64 x) ∧ Below wr.heap.size wr w') := by rw [hxe]; exact HL1
        subst haT
        clear hS2 hstep hbt hin2 hse hsok hxe hye HL1 hn1l hn2l hbok
        by_cases h1 : n2 > n1
        · have h1I : (n2 : Int) > n1 := by omega
          go_wp2
          go_roundw
          case rel => exact ⟨i + 1, a2, n2, c2, s, by go_num, by omega, rfl, Lib.hid (by rw [HST.out, HBT.out]; simp [h1]), HIN2, HS2, HBW⟩
          case measure => simp [intOf]; omega
        · have h1I : ¬ (n2 : Int) > n1 := by omega
          by_cases h2 : n2 = n1
          · subst h2
            by_cases hxy : x < y
            all_goals
              go_wp2_with (first | (go_at_call 33; refine HL1'.out.mono ?_; rintro e w7 ⟨rfl, hb7⟩; have HB7 := Lib.hid hb7; clear hb7) | (go_at_call 33; refine (HL2.out _ HB7.out).mono ?_; rintro e w8 ⟨rfl, hb8⟩; have HB8 := Lib.hid (HB7.out.trans (hb8.mono HB7.out.size)); clear hb8))
              go_roundw
              case measure => simp [intOf]; omega
              case rel => first | exact ⟨i + 1, a2, n2, c2, s, by go_num, by omega, rfl, Lib.hid (by rw [HST.out, HBT.out]; simp [hxy]), HIN2, Lib.hid (HS2.out.below HB8.out), Lib.hid (HBW.out.trans (HB8.out.mono HBW.out.size))⟩ | exact ⟨i + 1, a1, n2, c1, b, by go_num, by omega, rfl, Lib.hid (by rw [HST.out, HBT.out]; simp; intro h99; omega), HBM, Lib.hid (HSB.out.below HB8.out), Lib.hid (HBW.out.trans (HB8.out.mono HBW.out.size))⟩
          · have h2I : ¬ (n2 : Int) = n1 := by omega
            go_wp2
            go_roundw
            case rel => exact ⟨i + 1, a1, n1, c1, b, by go_num, by omega, rfl, Lib.hid (by rw [HST.out, HBT.out]; simp [h2]; omega), HBM, HSB, HBW⟩
            case measure => simp [intOf]; omega
      · have hiI : ¬ (i : Int) < nT := by omega
        obtain rfl : nT = i := by omega
        have hbn := hbok.1.1
        obtain ⟨b0, b', hbe⟩ := List.exists_cons_of_ne_nil hbn
        obtain ⟨bB, oB, haB, hcellB⟩ := HSB.out.at (k := 0) (by rw [ic_length, hbe]; simp)
        have hcB := hcellB 0 (by rw [ic_length, hbe]; simp)
        simp only [ic, List.getElem_map, Nat.add_zero] at hcB
        have hb0 : b[0]'(by rw [hbe]; simp) = b0 := by simp [hbe]
        rw [hb0] at hcB
        have hn10 : (0 : Int) < n1 := by rw [hn1l, hbe]; simp
        have hfin : chooseL xs cand = b0 := by
          have h1 := HBE.out
          rw [List.take_of_length_le (by have := HGT.out.len; omega), ← HAE.out, HAM.out] at h1
          unfold chooseL
          rw [← HGS.out, ← h1, hbe]
          rfl
        have HFIN := Lib.hid hfin
        subst haB
        clear hn1l hbok hbn hbe hcellB hb0 hfin
        go_wp2
        refine HKD.out _ _ ?_
        go_wp2
        go_ret
        rw [HFIN.out]
        exact ⟨rfl, HB1.out.trans ((HBN.out.trans (HBW.out.mono HBN.out.size)).mono HB1.out.size)⟩


end Go.Proofs.Ytgpfjinkmagelaa
