/- Elections: election.outlives. (Printed by el6.py.) -/
import Derived.Test.YtgpfjinkmagelaaElD
set_option linter.unusedVariables false
set_option linter.unusedSimpArgs false
namespace Go.Proofs.Ytgpfjinkmagelaa
open Go Go.RowKit Go.Lib

/-- Is a disk listed? -/
def inDead (dead : List Bool) (d : Int) : Bool := decide (dead[d.toNat]? = some true)
/-- Does the group outlive all others? -/
def outG (xs : List LL) (gs : List (List Nat)) (s : List Nat) : Bool :=
  gs.all fun o => (o.headD 0 == s.headD 0) || o.all fun i => inDead (lab xs (s.headD 0)).dead (lab xs i).dk

set_option maxRecDepth 100000 in
set_option maxHeartbeats 3200000 in
theorem outlives_any (xs : List LL) (a : Option Addr) (n c : Nat) (gs : List (List Nat)) (ag : Option Addr) (ng cg : Nat) (s : List Nat) (aS : Option Addr) (ns cs : Nat) (w : World) (hX : Lbs w a n c xs) (hG : Gis w ag ng cg gs) (hS : Sl w 1 aS ns cs (ic s))
    (hok : ∀ g ∈ gs, GrOk xs g) (hsok : GrOk xs s) (hdk : ∀ i, i < xs.length → 0 ≤ (lab xs i).dk ∨ ∀ g ∈ gs, i ∉ g) (hdk2 : ∀ x ∈ xs, x.l.dead.length ≤ 1000000) (hn6 : n ≤ 1000) (hng : ng ≤ 1000) (hgl : ∀ g ∈ gs, g.length ≤ 1000) (hsl : s.length ≤ 1000) :
    Calls Try.prog 32 #[.slice a n c, .slice ag ng cg, .slice aS ns cs] w fun e w' => e = .returned (.bool (outG xs gs s)) ∧ Below w.heap.size w w' := by
  have hlen := hX.len
  have hglen := hG.len
  have hcapL := hX.sl.cap
  have hcapG := hG.cap
  have hnsc := hS.cap
  have hnsl : ns = s.length := by have := hS.len; rw [ic_length] at this; omega
  obtain ⟨s0, s', rfl⟩ := List.exists_cons_of_ne_nil hsok.1
  have hs0l := hsok.2 s0 (by simp)
  obtain ⟨bS, oS, haS, hcell⟩ := hS.at (k := 0) (by rw [ic_length]; simp)
  have hc0 := hcell 0 (by rw [ic_length]; simp)
  simp only [ic, List.getElem_map, Nat.add_zero, List.getElem_cons_zero] at hc0
  obtain ⟨bL, oL, haL, hbL, r0⟩ := hX.at hs0l
  have hD := hX.dead _ (List.getElem_mem hs0l)
  have hcD : w.cell? ⟨bL, oL + s0 * 19 + 15, none⟩ = some (.slice xs[s0].ad xs[s0].nd xs[s0].c) := r0 15 _ rfl
  have hdl : (lab xs s0).dead = xs[s0].l.dead := by rw [lab_lt hs0l]
  have hDn : xs[s0].nd = xs[s0].l.dead.length := by have := hD.len; rw [bb_length] at this; omega
  have hD6 : xs[s0].nd ≤ 1000000 := by rw [hDn]; exact hdk2 _ (List.getElem_mem hs0l)
  obtain ⟨dl, hdle⟩ : ∃ dl, dl = xs[s0].l.dead := ⟨_, rfl⟩
  obtain ⟨nd, hnde⟩ : ∃ nd, nd = xs[s0].nd := ⟨_, rfl⟩
  obtain ⟨ad, hade⟩ : ∃ ad, ad = xs[s0].ad := ⟨_, rfl⟩
  obtain ⟨cd, hcde⟩ : ∃ cd, cd = xs[s0].c := ⟨_, rfl⟩
  rw [← hdle] at hD hdl hDn
  rw [← hnde] at hD hcD hDn hD6
  rw [← hade] at hD hcD
  rw [← hcde] at hD hcD
  have hcapD := hD.cap
  have hns0 : 0 < ns := by rw [hnsl]; simp
  have hns6 : ns ≤ 1000 := by omega
  have hsI : (s0 : Int) < n := by omega
  have hs00 : (0 : Int) ≤ (s0 : Int) := by omega
  have HX := Lib.hid hX
  have HG := Lib.hid hG
  have HD := Lib.hid hD
  have HDL := Lib.hid hdl
  have HDN := Lib.hid hDn
  have HOK := Lib.hid hok
  have HDK := Lib.hid hdk
  have HLX := Lib.hid hlen
  have HLG := Lib.hid hglen
  have HGL := Lib.hid hgl
  have CS : Hid (∀ z, Below w.heap.size w z → z.cell? ⟨bS, oS, none⟩ = some (.int .i64 (s0 : Int))) := Lib.hid fun z hz => below_cell hz (World.block_lt_of_cell? w _ hc0) hc0
  subst haS haL
  clear hX hG hS hok hsok hdk hdk2 hlen hglen hgl hcell r0 hD hdl hDn hdle hnde hade hcde hnsl hsl
  go_enter Try.func32, Try.ntmps32
  go_wp2
  clear hcD hc0
  go_loopw [22] (fun iv wr => ∃ i : Nat, iv = .int .i64 (i : Int) ∧ i ≤ ng ∧ Hid (outG xs (gs.take i) (s0 :: s') = true) ∧ Hid (Below w.heap.size w wr)) (fun iv _ => ng - (intOf iv).toNat)
  case atStart => exact ⟨0, rfl, by omega, Lib.hid rfl, Lib.hid (Below.refl _ _)⟩
  case round =>
  obtain ⟨i, rfl, hin, HOUT, HBW⟩ := hrel
  by_cases hi : i < ng
  · have hiI : (i : Int) < ng := by omega
    have hi0 : (0 : Int) ≤ (i : Int) := by omega
    have hig : i < gs.length := by have := HLG.out; omega
    obtain ⟨b, off, a1, n1, c1, ha, hc, hO⟩ := (HG.out.below HBW.out).at hig
    subst ha
    have hgok := HOK.out _ (List.getElem_mem hig)
    have hgl := HGL.out _ (List.getElem_mem hig)
    have hn1 : n1 = gs[i].length := by have := hO.len; rw [ic_length] at this; omega
    have htk : outG xs (gs.take (i + 1)) (s0 :: s') = (outG xs (gs.take i) (s0 :: s') && ((gs[i].headD 0 == s0) || gs[i].all fun q => inDead (lab xs s0).dead (lab xs q).dk)) := by
      unfold outG
      rw [List.take_succ_eq_append_getElem hig, List.all_append]
      simp
    have hin' : gs[i] ∈ gs := List.getElem_mem hig
    have hall : ((gs[i].headD 0 == s0) || gs[i].all fun q => inDead (lab xs s0).dead (lab xs q).dk) = false → outG xs gs (s0 :: s') = false := by
      intro h
      unfold outG
      rw [Bool.eq_false_iff]
      intro h2
      have := List.all_eq_true.1 h2 _ hin'
      simp only [List.headD_cons] at this
      rw [this] at h
      cases h
    obtain ⟨o, ho⟩ : ∃ o, o = gs[i] := ⟨_, rfl⟩
    rw [← ho] at hO hgok hn1 htk hall hgl hin'
    rw [HDL.out, HOUT.out] at htk
    rw [HDL.out] at hall
    obtain ⟨o0, o', ho'⟩ := List.exists_cons_of_ne_nil hgok.1
    obtain ⟨bO, oO, haO, hcellO⟩ := hO.at (k := 0) (by rw [ic_length, ho']; simp)
    have hcO := hcellO 0 (by rw [ic_length, ho']; simp)
    simp only [ic, List.getElem_map, Nat.add_zero] at hcO
    have ho00 : o[0]'(by rw [ho']; simp) = o0 := by simp [ho']
    rw [ho00] at hcO
    have hno0 : 0 < n1 := by rw [hn1, ho']; simp
    have hn16 : n1 ≤ 1000 := by omega
    have hnoc := hO.cap
    have hhd : o.headD 0 = o0 := by rw [ho']; rfl
    rw [hhd] at htk hall
    have CO : Hid (∀ z, Below w.heap.size w z → z.cell? ⟨bO, oO, none⟩ = some (.int .i64 (o0 : Int))) := by
      refine Lib.hid fun z hz => ?_
      obtain ⟨b9, off9, a9, n9, c9, ha9, hc9, hO9⟩ := (HG.out.below hz).at hig
      obtain ⟨b8, off8, a8, n8, c8, ha8, hc8, hO8⟩ := HG.out.at hig
      have e1 := below_cell hz (World.block_lt_of_cell? w _ hc8) hc8
      have e2 := below_cell HBW.out (World.block_lt_of_cell? w _ hc8) hc8
      rw [ha9] at ha8
      simp only [Option.some.injEq, Addr.mk.injEq, and_true] at ha8
      obtain ⟨rfl, rfl⟩ := ha8
      simp only [Option.some.injEq, Addr.mk.injEq, and_true] at ha9
      obtain ⟨rfl, rfl⟩ := ha9
      rw [hc] at e2
      simp only [Option.some.injEq, Value.slice.injEq] at e2
      obtain ⟨rfl, rfl, rfl⟩ := e2
      obtain ⟨b7, off7, ha7, hcell7⟩ := hO8.at (k := 0) (by rw [ic_length, ← ho, ho']; simp)
      rw [haO] at ha7
      simp only [Option.some.injEq, Addr.mk.injEq, and_true] at ha7
      obtain ⟨rfl, rfl⟩ := ha7
      have hc7 := hcell7 0 (by rw [ic_length, ← ho, ho']; simp)
      simp only [ic, List.getElem_map, Nat.add_zero] at hc7
      have e3 : gs[i][0]'(by rw [← ho, ho']; simp) = o0 := by
        have : gs[i][0]? = some o0 := by rw [← ho, ho']; rfl
        rw [List.getElem?_eq_getElem (by rw [← ho, ho']; simp)] at this
        exact Option.some.inj this
      rw [e3] at hc7
      exact below_cell hz (World.block_lt_of_cell? w _ hc7) hc7
    have HO := Lib.hid hO
    have HTK := Lib.hid htk
    have HALL := Lib.hid hall
    have HN1 := Lib.hid hn1
    have HOO : Hid (∀ q ∈ o, q < xs.length ∧ 0 ≤ (lab xs q).dk) := Lib.hid (fun q hq => ⟨hgok.2 q hq, by
      rcases HDK.out q (hgok.2 q hq) with h | h
      · exact h
      · exact (h o hin' hq).elim⟩)
    subst haO
    clear ho hO htk hall hn1 hgok hcellO hcO ho00 hhd ho' hin' hgl
    have HB : Hid (Below w.heap.size w wr.drew) := Lib.hid HBW.out.drew
    have hs : w.heap.size ≤ wr.drew.heap.size := HB.out.size
    go_wp2
    clear hc
    refine Rest.begin 7 (by kernel_rfl) (by kernel_rfl) ?_
    refine Rest.take 0 26 rfl (by kernel_rfl) (by kernel_rfl) (by kernel_rfl) (fun _ _ _ h => h) (by rfl) (by rfl) (by intro x hx; go_simp <;> with_reducible rfl) (by simp only [Act.put, List.setIfInBounds_toArray, List.set_cons_zero, List.set_cons_succ] <;> rfl) ?_
    refine Rest.take 1 27 rfl (by kernel_rfl) (by kernel_rfl) (by kernel_rfl) (fun _ _ _ h => h) (by rfl) (by rfl) (by intro x hx; have h1 := hno0; have h2 := hnoc; go_simp <;> with_reducible rfl) (by simp only [Act.put, List.setIfInBounds_toArray, List.set_cons_zero, List.set_cons_succ] <;> rfl) ?_
    refine Rest.take 2 28 rfl (by kernel_rfl) (by kernel_rfl) (by kernel_rfl) (fun _ _ _ h => h) (by rfl) (by rfl) (by intro x hx; have hc := CO.out x (later HB hs hx); go_simp <;> with_reducible rfl) (by simp only [Act.put, List.setIfInBounds_toArray, List.set_cons_zero, List.set_cons_succ] <;> rfl) ?_
    refine Rest.take 3 29 rfl (by kernel_rfl) (by kernel_rfl) (by kernel_rfl) (fun _ _ _ h => h) (by rfl) (by rfl) (by intro x hx; go_simp <;> with_reducible rfl) (by simp only [Act.put, List.setIfInBounds_toArray, List.set_cons_zero, List.set_cons_succ] <;> rfl) ?_
    refine Rest.take 4 30 rfl (by kernel_rfl) (by kernel_rfl) (by kernel_rfl) (fun _ _ _ h => h) (by rfl) (by rfl) (by intro x hx; have h1 := hns0; have h2 := hnsc; go_simp <;> with_reducible rfl) (by simp only [Act.put, List.setIfInBounds_toArray, List.set_cons_zero, List.set_cons_succ] <;> rfl) ?_
    refine Rest.take 5 31 rfl (by kernel_rfl) (by kernel_rfl) (by kernel_rfl) (fun _ _ _ h => h) (by rfl) (by rfl) (by intro x hx; have hc := CS.out x (later HB hs hx); go_simp <;> with_reducible rfl) (by simp only [Act.put, List.setIfInBounds_toArray, List.set_cons_zero, List.set_cons_succ] <;> rfl) ?_
    refine Rest.take 6 32 rfl (by kernel_rfl) (by kernel_rfl) (by kernel_rfl) (fun _ _ _ h => h) (by rfl) (by rfl) (by intro x hx; go_simp <;> with_reducible rfl) (by simp only [Act.put, List.setIfInBounds_toArray, List.set_cons_zero, List.set_cons_succ] <;> rfl) ?_
    refine Rest.done (by kernel_rfl) ?_
    by_cases hos : o0 = s0
    · have hosI : (o0 : Int) = s0 := by omega
      go_wp2
      go_roundw
      case rel => exact ⟨i + 1, by go_num, by omega, Lib.hid (by rw [HTK.out]; simp [hos]), HB⟩
      case measure => simp [intOf]; omega
    · have hosI : ¬ (o0 : Int) = s0 := by omega
      go_wp2
      obtain ⟨w5, hw5⟩ : ∃ w5, w5 = wr.drew := ⟨_, rfl⟩
      rw [← hw5] at HB hs
      rw [← hw5]
      have HO5 : Hid (Sl w5 1 (some ⟨bO, oO, none⟩) n1 c1 (ic o)) := by rw [hw5]; exact Lib.hid HO.out.drew
      clear hw5 HO
      go_loopw [35] (fun kv wr => ∃ k : Nat, kv = .int .i64 (k : Int) ∧ k ≤ n1 ∧ Hid ((o.take k).all (fun q => inDead dl (lab xs q).dk) = true) ∧ Hid (Below w5.heap.size w5 wr)) (fun kv _ => n1 - (intOf kv).toNat)
      case atStart => exact ⟨0, rfl, by omega, Lib.hid (by simp), Lib.hid (Below.refl _ _)⟩
      case round =>
      obtain ⟨k, rfl, hkn, HAL, HBK⟩ := hrel
      by_cases hk : k < n1
      · have hkI : (k : Int) < n1 := by omega
        have hk0 : (0 : Int) ≤ (k : Int) := by omega
        have hkl : k < o.length := by have := HN1.out; omega
        obtain ⟨b2, off2, ha2, hcell2⟩ := (HO5.out.below HBK.out).at (k := k) (by rw [ic_length]; exact hkl)
        obtain ⟨rfl, rfl⟩ : bO = b2 ∧ oO = off2 := by simpa using ha2
        have hc2 := hcell2 k (by rw [ic_length]; exact hkl)
        simp only [ic, List.getElem_map] at hc2
        have hstep : (o.take (k + 1)).all (fun q => inDead dl (lab xs q).dk) = ((o.take k).all (fun q => inDead dl (lab xs q).dk) && inDead dl (lab xs o[k]).dk) := by
          rw [List.take_succ_eq_append_getElem hkl, List.all_append]
          simp
        rw [HAL.out, Bool.true_and] at hstep
        have hfail : inDead dl (lab xs o[k]).dk = false → (o.all fun q => inDead dl (lab xs q).dk) = false := by
          intro h
          rw [Bool.eq_false_iff]
          intro h2
          rw [List.all_eq_true.1 h2 _ (List.getElem_mem hkl)] at h
          cases h
        have hq := HOO.out _ (List.getElem_mem hkl)
        obtain ⟨q, hqe⟩ : ∃ q, q = o[k] := ⟨_, rfl⟩
        rw [← hqe] at hc2 hstep hfail hq
        obtain ⟨b3, off3, ha3, hb3, r3⟩ := (HX.out.below (HB.out.trans (HBK.out.mono hs))).at hq.1
        obtain ⟨rfl, rfl⟩ : bL = b3 ∧ oL = off3 := by simpa using ha3
        have hc3 : wr.cell? ⟨bL, oL + q * 19 + 1, none⟩ = some (.int .i64 xs[q].l.dk) := r3 1 _ rfl
        rw [← lab_lt hq.1] at hc3
        have hqI : (q : Int) < n := by have := HLX.out; have := hq.1; omega
        have hq0 : (0 : Int) ≤ (q : Int) := by omega
        obtain ⟨D, hDe⟩ : ∃ D, D = (lab xs q).dk := ⟨_, rfl⟩
        rw [← hDe] at hc3 hstep hfail hq
        have hD0 : 0 ≤ D := hq.2
        have HST := Lib.hid hstep
        have HFA := Lib.hid hfail
        clear hDe hqe hq hstep hfail hcell2 ha2 ha3 r3
        by_cases hDn : D < nd
        · obtain ⟨d, rfl⟩ : ∃ d : Nat, D = (d : Int) := ⟨D.toNat, by omega⟩
          have hdn : d < dl.length := by have := HDN.out; omega
          have hDge : ¬ (d : Int) ≥ nd := by omega
          obtain ⟨b4, off4, ha4, hcell4⟩ := (HD.out.below (HB.out.trans (HBK.out.mono hs))).at (k := d) (by rw [bb_length]; exact hdn)
          have hc4 := hcell4 d (by rw [bb_length]; exact hdn)
          simp only [bb, List.getElem_map] at hc4
          subst ha4
          have hget : inDead dl (d : Int) = dl[d] := by
            unfold inDead
            rw [Int.toNat_natCast, List.getElem?_eq_getElem hdn]
            cases dl[d] <;> simp
          rw [hget] at HST HFA
          clear hcell4 hget
          cases hbit : dl[d] with
          | true =>
            rw [hbit] at hc4 HST
            clear hbit
            go_wp2
            go_roundw
            case rel => exact ⟨k + 1, by go_num, by omega, HST, HBK⟩
            case measure => simp [intOf]; omega
          | false =>
            rw [hbit] at hc4 HFA
            clear hbit
            go_wp2
            go_ret
            rw [HALL.out (by rw [HFA.out (by first | rfl | trivial)]; simp [hos])]
            exact ⟨rfl, HB.out.trans (HBK.out.mono hs)⟩
        · have hDge : D ≥ nd := by omega
          have hno : inDead dl D = false := by
            unfold inDead
            rw [List.getElem?_eq_none (by have := HDN.out; omega)]
            simp
          go_wp2
          go_ret
          rw [HALL.out (by rw [HFA.out hno]; simp [hos])]
          exact ⟨rfl, HB.out.trans (HBK.out.mono hs)⟩
      · have hkI : ¬ (k : Int) < n1 := by omega
        obtain rfl : n1 = k := by omega
        have hal := HAL.out
        rw [List.take_of_length_le (by have := HN1.out; omega)] at hal
        have HAL2 := Lib.hid hal
        clear hal
        go_wp2
        go_roundw
        case rel => exact ⟨i + 1, by go_num, by omega, Lib.hid (by rw [HTK.out, HAL2.out]; simp), Lib.hid (HB.out.trans (HBK.out.mono hs))⟩
        case measure => simp [intOf]; omega
  · have hiI : ¬ (i : Int) < ng := by omega
    obtain rfl : ng = i := by omega
    go_wp2
    go_ret
    have h1 := HOUT.out
    rw [List.take_of_length_le (by have := HLG.out; omega)] at h1
    rw [h1]
    exact ⟨rfl, HBW.out⟩

end Go.Proofs.Ytgpfjinkmagelaa
