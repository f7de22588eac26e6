/- Elections: slices.Clone of bools; election.Elect. (Printed by el8.py.) -/
import Derived.Test.YtgpfjinkmagelaaElR
import Derived.Test.YtgpfjinkmagelaaElB
set_option linter.unusedVariables false
set_option linter.unusedSimpArgs false
namespace Go.Proofs.Ytgpfjinkmagelaa
open Go Go.RowKit Go.Lib

theorem rangeAt_sub {w : World} {b o k : Nat} {cs ds : List Value} (h : w.rangeAt b o cs) (hd : ∀ (j : Nat) (v : Value), ds[j]? = some v → cs[k + j]? = some v) : w.rangeAt b (o + k) ds := fun j v hv => by
  rw [Nat.add_assoc]
  exact h (k + j) v (hd j v hv)
theorem LbAt.cfg {l : Lb} {ad : Option Addr} {nd c g : Nat} {z : World} (h : LbAt l ad nd c g z) : z.rangeAt g 4 l.cfgv.toList := by
  refine Eq.mp (by rw [Nat.zero_add]) (rangeAt_sub (k := 4) (ds := l.cfgv.toList) h.range fun j v hv => ?_)
  have hj : j < 11 := by
    have := (List.getElem?_eq_some_iff.1 hv).1
    simpa [Lb.cfgv] using this
  match j, hj with
  | 0, _ => exact hv
  | 1, _ => exact hv
  | 2, _ => exact hv
  | 3, _ => exact hv
  | 4, _ => exact hv
  | 5, _ => exact hv
  | 6, _ => exact hv
  | 7, _ => exact hv
  | 8, _ => exact hv
  | 9, _ => exact hv
  | 10, _ => exact hv
theorem arrv_one (l : Lb) (ad : Option Addr) (nd c : Nat) : (l.arrv ad nd c).all (·.oneCell') = true := by simp [Lb.arrv, Value.oneCell']
theorem inDead_get {d : List Bool} {x : Int} (h : x.toNat < d.length) : inDead d x = d[x.toNat] := by
  unfold inDead
  rw [List.getElem?_eq_getElem h]
  cases d[x.toNat] <;> simp
theorem wpList_makeI {o : Oper} {ops : Array Oper} {rest : List Oper} {a : Act} {Q : Exit → Act → World → Prop} {l c : Operand} {n : Nat} (w : World) (hgd : o.guard = none) (hop : o.op = Op.makeSlice 33 l c) (hl : a.eval l = .int .i64 (n : Int)) (hc : a.eval c = .int .i64 (n : Int)) (hn : n ≤ 1000)
    (h : ∀ w', w'.ownsRow w.heap.size 3 1 (.slice (some ⟨w.heap.size, 0, none⟩) n n) n (zc (List.replicate n 0)) → w.grownBy w' none → wpList Try.prog ops Q rest (a.put o.dst (.slice (some ⟨w.heap.size, 0, none⟩) n n)) w') : wpList Try.prog ops Q (o :: rest) a w :=
  wpList_plain hgd fun K hK => by
    obtain ⟨i0, hi, hz0, hz1, hz2⟩ := info_parts info_int
    obtain ⟨w', hrun, r1, r2⟩ := run_make_full (P := Try.prog) w w.heap.size 33 3 i0 (.int .i64 0) 1 Try.underlying33 hi hz0 hz1 .i64 .i64 n (by rw [hz2]; omega) (by unfold maxLen; omega) (Nat.le_refl _)
    have hz : (madeCells (Value.int .i64 0).cells (n * 1)).toList = zc (List.replicate n 0) := by
      rw [show (Value.int .i64 0).cells = #[.int .i64 0] from rfl, toList_madeCells_one, Nat.mul_one]
      simp [zc]
    rw [hz] at r1
    unfold Oper.wp
    simp [execOp, hop, hl, hc, hrun, Result.andThen]
    exact hK _ _ (h w' r1 r2)

theorem atL_ok {xs : List LL} (e : Lb) : ∀ (n : Nat) {l : List Nat}, l.length = n → (∀ i ∈ l, i < xs.length) → AtOk xs.length (atL xs e l)
  | 0, l, h, _ => by
    rw [List.eq_nil_of_length_eq_zero h]
    intro z hz
    simp [atL] at hz
    exact .inl hz.2
  | n + 1, l, h, hm => by
    have hne : l ≠ [] := by rintro rfl; simp at h
    have hl := List.dropLast_concat_getLast hne
    have h0 := hm _ (List.getLast_mem hne)
    rw [← hl, atL_app]
    exact stepAt_ok (atL_ok e n (by rw [List.length_dropLast]; omega) (fun i hi => hm i (List.dropLast_subset l hi))) h0
theorem stepAt_no {xs : List LL} {e y : Lb} {zs : List Int} {j : Nat} (hl : lab xs j = y) (hq : qualL e y = !true) : stepAt xs e zs j = zs := by
  unfold stepAt
  rw [hl, hq, if_neg (by simp)]
theorem stepAt_set {xs : List LL} {e y : Lb} {zs : List Int} {j d : Nat} (hl : lab xs j = y) (hq : qualL e y = !false) (hd : y.dk = (d : Int)) (hc : zs.getD d 0 < 0 ∨ (lab xs (zs.getD d 0).toNat).gen < y.gen) : stepAt xs e zs j = zs.set d (j : Int) := by
  unfold stepAt
  rw [hl, hq, if_pos (by simp), hd, Int.toNat_natCast, if_pos hc]
theorem stepAt_keep {xs : List LL} {e y : Lb} {zs : List Int} {j d : Nat} (hl : lab xs j = y) (hq : qualL e y = !false) (hd : y.dk = (d : Int)) (hc : ¬ (zs.getD d 0 < 0 ∨ (lab xs (zs.getD d 0).toNat).gen < y.gen)) : stepAt xs e zs j = zs := by
  unfold stepAt
  rw [hl, hq, if_pos (by simp), hd, Int.toNat_natCast, if_neg hc]
/-- The places while they are filled. -/
def fillL (m i : Nat) : List Int := List.replicate i (-1) ++ List.replicate (m - i) 0
theorem zc_set (l : List Int) (i : Nat) (v : Int) : (zc l).set i (.int .i64 v) = zc (l.set i v) := by
  unfold zc
  rw [List.map_set]
theorem fillL_get {m i : Nat} (h : i < m) : (zc (fillL m i))[i]? = some (.int .i64 0) := by
  unfold zc fillL
  rw [List.getElem?_map, List.getElem?_append_right (by simp), List.getElem?_replicate]
  simp
  omega
theorem fillL_set {m i : Nat} (h : i < m) : (fillL m i).set i (-1) = fillL m (i + 1) := by
  unfold fillL
  rw [List.set_append_right _ _ (by simp)]
  obtain ⟨k, hk⟩ : ∃ k, m - i = k + 1 := ⟨m - i - 1, by omega⟩
  rw [hk, show m - (i + 1) = k by omega, List.length_replicate, Nat.sub_self, List.replicate_succ, List.set_cons_zero, List.replicate_succ' (n := i), List.append_assoc]
  rfl
theorem fillL_full (m : Nat) : fillL m m = List.replicate m (-1) := by simp [fillL]

set_option maxRecDepth 100000 in
set_option maxHeartbeats 400000 in
theorem cloneT_any (a : Option Addr) (n c : Nat) (l : List Bool) (w : World) (h : Sl w 1 a n c (bb l)) (hl : l.length ≤ 1000000) :
    Calls Try.prog 25 #[.slice a n c] w fun e w' => ∃ a' n' c', e = .returned (.slice a' n' c') ∧ w'.ownsRow w.heap.size 4 1 (.slice a' n' c') n' (bb l) ∧ Below w.heap.size w w' := by
  have hlen := h.len
  rw [bb_length] at hlen
  have kn := fun (w : World) (a : Option Addr) (n c : Nat) => Lib.run_eql_slice_nil (P := Try.prog) w 23 4 a n c 0 0 Try.underlying23
  cases a with
  | none =>
    obtain ⟨rfl, rfl, hl0⟩ := h.none_nil
    have H := Lib.hid hl0; clear hl0 hlen
    go_enter Try.func25, Try.ntmps25
    go_wp2
    go_ret
    exact ⟨none, 0, 0, rfl, by rw [H.out]; exact World.ownsRow_nil _ _ _ _, Below.refl _ _⟩
  | some ad =>
    have hn : n ≤ 1000000 := by omega
    clear hlen
    go_enter Try.func25, Try.ntmps25
    go_wp2_with (at_builtin; refine wpList_appendT _ 4 (.bool false) 1 (by kernel_rfl) rfl (by decide) rfl _ _ Try.underlying23 rfl w.heap.size _ 0 [] rfl (owns_empty _ _ _ _ (Nat.le_refl _)) (some ad) n c (bb l) rfl (h.below ((Below.refl _ _).alloc (Nat.le_refl _) _)) ?h1 ?h2 ?h3)
    case h1 => omega
    case h2 => simp
    case h3 =>
      intro a1 c1 w1 hown hg
      go_wp2
      go_ret
      exact ⟨a1, _, c1, rfl, hown, ((Below.refl _ _).alloc (Nat.le_refl _) _).grown hg (by simp) (by simp [Value.ownBlock])⟩

/-- What Elect returns. -/
def ElRes (xs : List LL) (rd : List Bool) (e : Ending) (w w' : World) : Prop :=
  ∃ ad nd cd az nz cz, e = .returned (.tuple #[.agg ((electL xs rd).1.arrv ad nd cd), .slice az nz cz, .int .i64 (electL xs rd).2.2]) ∧ Sl w' 1 ad nd cd (bb (electL xs rd).1.dead) ∧ Sl w' 1 az nz cz (zc (electL xs rd).2.1) ∧ Below w.heap.size w w'

set_option maxRecDepth 100000 in
set_option maxHeartbeats 6400000 in
theorem elect_any (xs : List LL) (a : Option Addr) (n c : Nat) (rd : List Bool) (ar : Option Addr) (nr cr : Nat) (w : World) (hX : Lbs w a n c xs) (hR : Sl w 1 ar nr cr (bb rd)) (hok : ∀ x ∈ xs, x.l.ok) (hn6 : n ≤ 500) :
    Calls Try.prog 11 #[.slice a n c, .slice ar nr cr] w fun e w' => ElRes xs rd e w w' := by
  have hlen := hX.len
  have hrl : rd.length = nr := by have := hR.len; rw [bb_length] at this; omega
  have hcapL := hX.sl.cap
  have hcapR := hR.cap
  have HLX := Lib.hid hlen
  have HLR := Lib.hid hrl
  have HOK := Lib.hid hok
  clear hlen hrl hok
  unfold ElRes
  go_enter Try.func11, Try.ntmps11
  refine wp_seq_k (fun K0 hK0 => ?_)
  refine Lin.begin ?_
  refine Lin.takeW 4 rfl rfl (by go_simp; exact ⟨rfl, rfl⟩) (by simp only [Act.put, List.setIfInBounds_toArray, List.set_cons_zero, List.set_cons_succ] <;> rfl) ?_
  intro w1 hw1
  obtain ⟨g, hg⟩ : ∃ g, g = w.heap.size := ⟨_, rfl⟩
  rw [← hg]
  have HR1 : Hid (w1.heap[g]? = some (.cells (lbz.arrv none 0 0) 32 (0, 0))) := by rw [hw1, hg]; exact Lib.hid (heap_alloc_new _ _)
  have hb1 : Below w.heap.size w w1 := by rw [hw1]; exact (Below.refl _ _).alloc (Nat.le_refl _) _
  have hsz1 : w1.heap.size = g + 1 := by rw [hw1, hg]; simp
  have HG := Lib.hid hg
  have HB1 := Lib.hid hb1
  have HX := Lib.hid (hX.below hb1)
  have HRD := Lib.hid (hR.below hb1)
  clear hw1 hg hb1 hX hR
  refine Lin.take 5 rfl rfl (by go_simp <;> with_reducible rfl) (by simp only [Act.put, List.setIfInBounds_toArray, List.set_cons_zero, List.set_cons_succ] <;> rfl) ?_
  refine Lin.take 6 rfl rfl (by go_simp <;> with_reducible rfl) (by simp only [Act.put, List.setIfInBounds_toArray, List.set_cons_zero, List.set_cons_succ] <;> rfl) ?_
  refine Lin.done (hK0 _ _ ?_)
  refine wp_seq_k (fun K1 hK1 => ?_)
  refine wp_seq_k (fun K hK => ?_)
  refine Lin.begin ?_
  refine Lin.take 18 rfl rfl (by go_simp <;> with_reducible rfl) (by simp only [Act.put, List.setIfInBounds_toArray, List.set_cons_zero, List.set_cons_succ] <;> rfl) ?_
  refine Lin.take 19 rfl rfl (by go_simp <;> with_reducible rfl) (by simp only [Act.put, List.setIfInBounds_toArray, List.set_cons_zero, List.set_cons_succ] <;> rfl) ?_
  refine Lin.take 20 rfl rfl (by go_simp <;> with_reducible rfl) (by simp only [Act.put, List.setIfInBounds_toArray, List.set_cons_zero, List.set_cons_succ] <;> rfl) ?_
  refine Lin.take 21 rfl rfl (by go_simp <;> with_reducible rfl) (by simp only [Act.put, List.setIfInBounds_toArray, List.set_cons_zero, List.set_cons_succ] <;> rfl) ?_
  refine Lin.bool 22 rfl rfl (by go_simp <;> with_reducible rfl) ?_
  intro B22 hB22 aa ha; simp only [Act.put, List.setIfInBounds_toArray, List.set_cons_zero, List.set_cons_succ] at ha; subst ha
  refine Lin.done (hK _ _ ?_)
  clear hK0 K0 hK K
  refine wp_cond_split rfl (fun ht => ?_) (fun hf => ?_)
  · have hnm : ¬ xs.length = rd.length := by
      rw [hB22] at ht
      have h1 := HLX.out
      have h2 := HLR.out
      simp at ht
      omega
    have hE : electL xs rd = (lbz, [], 1) := by unfold electL; rw [if_pos hnm]
    clear hnm ht hB22
    refine wp_seq_k (fun KF hKF => ?_)
    refine Lin.begin ?_
    refine Lin.take 23 (v := .agg (lbz.arrv none 0 0)) rfl rfl (by go_simp <;> rfl) (by simp only [Act.put, List.setIfInBounds_toArray, List.set_cons_zero, List.set_cons_succ] <;> rfl) ?_
    refine W_store_row 32 g (lbz.arrv none 0 0) 32 (lbz.arrv none 0 0) rfl rfl HR1.out (by kernel_rfl) rfl (arrv_one _ _ _ _) ?_
    simp only [Act.put]
    refine Lin.take 5 rfl rfl (by go_simp <;> with_reducible rfl) (by simp only [Act.put, List.setIfInBounds_toArray, List.set_cons_zero, List.set_cons_succ] <;> rfl) ?_
    refine Lin.take 6 rfl rfl (by go_simp <;> with_reducible rfl) (by simp only [Act.put, List.setIfInBounds_toArray, List.set_cons_zero, List.set_cons_succ] <;> rfl) ?_
    refine Lin.done (hKF _ _ ?_)
    refine wp_ret ?_
    simp only [Exit.then]
    refine bodyPost_ret (results_row2 rfl _ _ g 32 (lbz.arrv none 0 0) _ rfl (setRow_at HR1.out) Try.underlying32 rfl (by kernel_rfl)) rfl ?_
    rw [hE]
    exact ⟨none, 0, 0, none, 0, 0, rfl, Sl.nilv _ _, Sl.nilv _ _, below_setRow HB1.out (by have := HG.out; omega) _⟩
  have hnm : n = nr := by
    rw [hB22] at hf
    simp at hf
    omega
  subst hnm
  clear hf hB22
  refine wp_skip ?_
  refine hK1 _ _ ?_
  clear hK1 K1
  refine wp_seq_k (fun K hK => ?_)
  refine Lin.begin ?_
  refine Lin.take 7 rfl rfl (by go_simp <;> with_reducible rfl) (by simp only [Act.put, List.setIfInBounds_toArray, List.set_cons_zero, List.set_cons_succ] <;> rfl) ?_
  refine Lin.done (hK _ _ ?_)
  clear hK K
  refine wp_seq_k (fun KL hKL => ?_)
  have HKL := Lib.hid hKL
  clear hKL
  go_wp2
  go_loopw [7, 26] (fun v iv wr => ∃ (i : Nat) (a1 : Option Addr) (n1 c1 : Nat), iv = .int .i64 (i : Int) ∧ i ≤ n ∧ v = .slice a1 n1 c1 ∧ n1 ≤ i ∧ Hid (wr.ownsRow w1.heap.size 3 1 (.slice a1 n1 c1) n1 (ic (candP xs rd i))) ∧ Hid (Below w1.heap.size w1 wr)) (fun _ iv _ => n - (intOf iv).toNat)
  case atStart => exact ⟨0, none, 0, 0, rfl, by omega, rfl, by omega, Lib.hid (World.ownsRow_nil _ _ _ _), Lib.hid (Below.refl _ _)⟩
  case round =>
  obtain ⟨i, a1, n1, c1, rfl, hin, rfl, hn1i, HO, HBW⟩ := hrel
  by_cases hi : i < n
  · have hiI : (i : Int) < n := by omega
    have hiR := hiI
    have hi0 : (0 : Int) ≤ (i : Int) := by omega
    have hil : i < xs.length := by have := HLX.out; omega
    have hir : i < rd.length := by have := HLR.out; omega
    obtain ⟨bL, oL, haL, hbL, r0⟩ := (HX.out.below HBW.out).at hil
    obtain ⟨bR, oR, haR, hcellR⟩ := (HRD.out.below HBW.out).at (k := i) (by rw [bb_length]; exact hir)
    have hcR := hcellR i (by rw [bb_length]; exact hir)
    simp only [bb, List.getElem_map] at hcR
    have hbR := World.block_lt_of_cell? wr _ hcR
    simp only at hbR
    have hcp := candP_succ xs rd i
    have hoki : okI xs rd i = (rd[i] && decide (lab xs i).valid) := by
      unfold okI
      rw [List.getD_eq_getElem?_getD, List.getElem?_eq_getElem hir]
      rfl
    rw [hoki, lab_lt hil] at hcp
    have hdx := (HX.out.below HBW.out).dead _ (List.getElem_mem hil)
    have hox := HOK.out _ (List.getElem_mem hil)
    obtain ⟨x, hxe⟩ : ∃ x, x = xs[i] := ⟨_, rfl⟩
    obtain ⟨rb, hrb⟩ : ∃ rb, rb = rd[i] := ⟨_, rfl⟩
    rw [← hxe] at r0 hcp hdx hox
    rw [← hrb] at hcR hcp
    have RI := Lib.hid r0
    have CR := Lib.hid hcR
    have HCP := Lib.hid hcp
    have HDX := Lib.hid hdx
    have HOX := Lib.hid hox
    subst haL haR
    clear hcellR hcR hcp hdx hox hxe hrb hoki r0
    refine wp_seq_k (fun KA hKA => ?_)
    refine Lin.begin ?_
    refine Lin.take 27 (v := .bool true) rfl rfl (by have h1 := hiI; go_simp <;> with_reducible rfl) (by simp only [Act.put, List.setIfInBounds_toArray, List.set_cons_zero, List.set_cons_succ] <;> rfl) ?_
    refine Lin.done (hKA _ _ ?_)
    refine wp_seq_k (fun KB hKB => ?_)
    refine wp_cond_true rfl ?_
    refine wp_skip ?_
    refine hKB _ _ ?_
    clear hKA hKB KA KB
    refine wp_seq_k (fun KC hKC => ?_)
    refine wp_block ?_
    refine wp_seq_k (fun KD hKD => ?_)
    refine Lin.begin ?_
    refine Lin.take 28 rfl rfl (by go_simp <;> with_reducible rfl) (by simp only [Act.put, List.setIfInBounds_toArray, List.set_cons_zero, List.set_cons_succ] <;> rfl) ?_
    refine Lin.take 29 (v := .pointer (some ⟨bL, oL + i * 19, none⟩)) rfl rfl (by have h1 := hiI; have h2 := hi0; have h3 := hcapL; go_simp <;> with_reducible rfl) (by simp only [Act.put, List.setIfInBounds_toArray, List.set_cons_zero, List.set_cons_succ] <;> rfl) ?_
    refine Lin.mid 30 true 32 _ bL (oL + i * 19) x.arr.toList _ (by kernel_rfl) rfl rfl (fun _ => rfl) RI.out Try.underlying32 rfl (by kernel_rfl) (by simp only [Act.put, List.setIfInBounds_toArray, List.set_cons_zero, List.set_cons_succ] <;> rfl) ?_
    refine Lin.takeW 9 rfl rfl (by go_simp; exact ⟨rfl, rfl⟩) (by simp only [Act.put, List.setIfInBounds_toArray, List.set_cons_zero, List.set_cons_succ] <;> rfl) ?_
    intro z1 hz1
    obtain ⟨q, hq⟩ : ∃ q, q = wr.heap.size := ⟨_, rfl⟩
    rw [← hq]
    have hrow1 : z1.heap[q]? = some (.cells (lbz.arrv none 0 0) 32 (0, 0)) := by rw [hz1, hq]; exact heap_alloc_new _ _
    have hb1 : Below wr.heap.size wr z1 := by rw [hz1]; exact (Below.refl _ _).alloc (Nat.le_refl _) _
    have hzs1 : z1.heap.size = q + 1 := by rw [hz1, hq]; simp
    have HQ := Lib.hid hq
    clear hz1 hq
    refine Lin.take 8 rfl rfl (by go_simp <;> with_reducible rfl) (by simp only [Act.put, List.setIfInBounds_toArray, List.set_cons_zero, List.set_cons_succ] <;> rfl) ?_
    refine W_store_row 32 q x.arr 32 (lbz.arrv none 0 0) rfl rfl hrow1 (by kernel_rfl) rfl (arrv_one _ _ _ _) ?_
    simp only [Act.put]
    obtain ⟨z2, hz2⟩ : ∃ y, y = z1.setRow q x.arr := ⟨_, rfl⟩
    rw [← hz2]
    have HL2 : Hid (LbAt x.l x.ad x.nd x.c q z2) := by rw [hz2]; exact Lib.hid (LbAt.of (setRow_at hrow1))
    have HB2 : Hid (Below wr.heap.size wr z2) := by rw [hz2]; exact Lib.hid (below_setRow hb1 (by have := HQ.out; omega) _)
    have hzs2 : z2.heap.size = q + 1 := by rw [hz2]; simpa using hzs1
    clear hz2 hb1 hrow1
    refine Lin.done (hKD _ _ ?_)
    clear hKD KD
    refine wp_seq_k (fun KD hKD => ?_)
    refine Lin.begin ?_
    refine Lin.take 31 rfl rfl (by go_simp <;> with_reducible rfl) (by simp only [Act.put, List.setIfInBounds_toArray, List.set_cons_zero, List.set_cons_succ] <;> rfl) ?_
    refine Lin.take 32 rfl rfl (by go_simp <;> with_reducible rfl) (by simp only [Act.put, List.setIfInBounds_toArray, List.set_cons_zero, List.set_cons_succ] <;> rfl) ?_
    refine Lin.take 33 (v := .pointer (some ⟨bR, oR + i, none⟩)) rfl rfl (by have h1 := hiR; have h2 := hi0; have h3 := hcapR; go_simp <;> with_reducible rfl) (by simp only [Act.put, List.setIfInBounds_toArray, List.set_cons_zero, List.set_cons_succ] <;> rfl) ?_
    refine Lin.take 34 (v := .bool rb) rfl rfl (by have hc := below_cell HB2.out hbR CR.out; go_simp <;> with_reducible rfl) (by simp only [Act.put, List.setIfInBounds_toArray, List.set_cons_zero, List.set_cons_succ] <;> rfl) ?_
    refine Lin.bool 35 rfl rfl (by go_simp <;> with_reducible rfl) ?_
    intro B35 hB35 aa ha; simp only [Act.put, List.setIfInBounds_toArray, List.set_cons_zero, List.set_cons_succ] at ha; subst ha; replace hB35 := Lib.hid hB35
    refine Lin.mid 36 B35 32 _ q 0 x.arr.toList _ (by cases B35 <;> kernel_rfl) rfl rfl (fun hc => by (try simp only [hc, gv_true]); rfl) HL2.out.range Try.underlying32 rfl (by kernel_rfl) (by simp only [Act.put, List.setIfInBounds_toArray, List.set_cons_zero, List.set_cons_succ] <;> rfl) ?_
    refine Lin.mayEnter 37 B35 (v := .bool (decide x.l.valid)) (S := Below z2.heap.size z2) (by cases B35 <;> kernel_rfl) rfl (by intro hc; (try simp only [hc, gv_true]); go_simp <;> (first | exact ⟨rfl, rfl⟩ | rfl)) (fun hc => valid_any x.l x.ad x.nd x.c _ (HDX.out.below HB2.out) HOX.out) (fun _ => Below.refl _ _) (by simp only [Act.put, List.setIfInBounds_toArray, List.set_cons_zero, List.set_cons_succ] <;> rfl) ?_
    intro z3 hb3
    have HB3 := Lib.hid (HB2.out.trans (hb3.mono (by have := HQ.out; omega)))
    have hzs3 : q + 1 ≤ z3.heap.size := by have := hb3.size; omega
    clear hb3
    refine Lin.and 38 35 37 rfl rfl rfl rfl rfl ?_
    intro B38 hB38 aa ha; simp only [Act.put, List.setIfInBounds_toArray, List.set_cons_zero, List.set_cons_succ] at ha; subst ha; replace hB38 := Lib.hid hB38
    refine Lin.done (hKD _ _ ?_)
    clear hKD KD
    have HO3 := Lib.hid (owns_belowI HO.out HB3.out)
    refine wp_cond_split rfl (fun ht => ?_) (fun hf => ?_)
    · have hval : (rb && decide x.l.valid) = true := by rw [← ht, hB38.out, hB35.out]
      rw [hval, if_pos rfl] at HCP
      clear ht hval hB38 hB35
      generalize gv _ _ = u0
      generalize gv _ _ = u1
      refine Lin.begin ?_
      refine Lin.take 39 rfl rfl (by go_simp <;> with_reducible rfl) (by simp only [Act.put, List.setIfInBounds_toArray, List.set_cons_zero, List.set_cons_succ] <;> rfl) ?_
      refine Lin.take 40 rfl rfl (by go_simp <;> with_reducible rfl) (by simp only [Act.put, List.setIfInBounds_toArray, List.set_cons_zero, List.set_cons_succ] <;> rfl) ?_
      refine Lin.takeW 41 rfl rfl (by go_simp; exact ⟨rfl, rfl⟩) (by simp only [Act.put, List.setIfInBounds_toArray, List.set_cons_zero, List.set_cons_succ] <;> rfl) ?_
      intro z4 hz4
      have HA4 : Hid (Sl z4 1 (some ⟨z3.heap.size, 0, none⟩) 1 1 (ic [i])) := by rw [hz4]; exact Lib.hid (Sl.single z3 _ _ rfl)
      have hv4 : z4.ownsRow w1.heap.size 3 1 (.slice a1 n1 c1) n1 (ic (candP xs rd i)) := by rw [hz4]; exact HO3.out.alloc _
      have HB4 : Hid (Below w1.heap.size w1 z4) := by rw [hz4]; exact Lib.hid ((HBW.out.trans (HB3.out.mono HBW.out.size)).alloc (Nat.le_trans HBW.out.size HB3.out.size) _)
      clear hz4
      refine wpList_appendT z4 3 (.int .i64 0) 8 (by kernel_rfl) rfl (by decide) rfl (.tmp 39) (.tmp 41) Try.underlying33 rfl w1.heap.size _ n1 (ic (candP xs rd i)) rfl hv4 _ 1 1 _ rfl HA4.out (by omega) HB4.out.size ?_
      intro a3 c3 z5 hown5 hg5
      simp only [Act.put, List.setIfInBounds_toArray, List.set_cons_zero, List.set_cons_succ] 
      have HO5 : Hid (z5.ownsRow w1.heap.size 3 1 (.slice a3 (n1 + 1) c3) (n1 + 1) (ic (candP xs rd (i + 1)))) := by rw [HCP.out]; simpa [ic] using Lib.hid hown5
      have HB5 : Hid (Below w1.heap.size w1 z5) := Lib.hid (HB4.out.grown hg5 HB4.out.size (fun k hk => (hv4.lt k hk).1))
      clear hown5 hg5 hv4
      refine Lin.take 7 rfl rfl (by go_simp <;> with_reducible rfl) (by simp only [Act.put, List.setIfInBounds_toArray, List.set_cons_zero, List.set_cons_succ] <;> rfl) ?_
      refine Lin.end ?_
      simp only [Exit.inBlock, Exit.then]
      refine hKC _ _ ?_
      go_wp2
      go_roundw
      case rel => exact ⟨i + 1, a3, n1 + 1, c3, by go_num, by omega, rfl, by omega, HO5, HB5⟩
      case measure => simp [intOf]; omega
    · have hval : ¬ (rb && decide x.l.valid) = true := by rw [← Bool.not_eq_true, hB38.out, hB35.out] at hf; exact hf
      rw [if_neg hval, List.append_nil] at HCP
      clear hf hval hB38 hB35
      generalize gv _ _ = u0
      generalize gv _ _ = u1
      refine wp_skip ?_
      refine hKC _ _ ?_
      go_wp2
      go_roundw
      case rel => exact ⟨i + 1, a1, n1, c1, by go_num, by omega, rfl, by omega, by rw [HCP.out]; exact HO3, Lib.hid (HBW.out.trans (HB3.out.mono HBW.out.size))⟩
      case measure => simp [intOf]; omega
  have hiI : ¬ (i : Int) < n := by omega
  obtain rfl : n = i := by omega
  go_wp2
  refine HKL.out _ _ ?_
  clear HKL
  have HC2 : Hid (Sl wr 1 a1 n1 c1 (ic (candL xs rd))) := by rw [candL_P, HLX.out]; exact Lib.hid (Sl.of_owns HO.out (ic_one _)).2
  have hncl : n1 = (candL xs rd).length := by have := HC2.out.len; rw [ic_length] at this; omega
  have hcapC := HC2.out.cap
  have hs2 : w1.heap.size ≤ wr.heap.size := HBW.out.size
  obtain ⟨w2, hw2⟩ : ∃ w2, w2 = wr := ⟨_, rfl⟩
  subst hw2
  have HB2 := HBW
  have HNC := Lib.hid hncl
  clear hncl HO HBW hin hiI hi
  refine wp_seq_k (fun K1 hK1 => ?_)
  refine wp_seq_k (fun KN hKN => ?_)
  by_cases hz : n1 = 0
  · have hzI : (n1 : Int) = 0 := by omega
    have hcn : candL xs rd = [] := List.eq_nil_of_length_eq_zero (by rw [← HNC.out]; exact hz)
    have hE : electL xs rd = (lbz, [], 9) := by
      unfold electL
      rw [if_neg (by have := HLX.out; have := HLR.out; omega), if_pos hcn]
    have HR2 : Hid (w2.heap[g]? = some (.cells (lbz.arrv none 0 0) 32 (0, 0))) := by rw [← HR1.out]; exact Lib.hid (HB2.out.block g (by omega))
    refine Lin.begin ?_
    refine Lin.take 44 rfl rfl (by go_simp <;> with_reducible rfl) (by simp only [Act.put, List.setIfInBounds_toArray, List.set_cons_zero, List.set_cons_succ] <;> rfl) ?_
    refine Lin.take 45 rfl rfl (by go_simp <;> with_reducible rfl) (by simp only [Act.put, List.setIfInBounds_toArray, List.set_cons_zero, List.set_cons_succ] <;> rfl) ?_
    refine Lin.take 46 (v := .bool true) rfl rfl (by have h1 := hzI; go_simp <;> with_reducible rfl) (by simp only [Act.put, List.setIfInBounds_toArray, List.set_cons_zero, List.set_cons_succ] <;> rfl) ?_
    refine Lin.done (hKN _ _ ?_)
    refine wp_cond_true rfl ?_
    refine wp_seq_k (fun KF hKF => ?_)
    refine Lin.begin ?_
    refine Lin.take 47 (v := .agg (lbz.arrv none 0 0)) rfl rfl (by go_simp <;> rfl) (by simp only [Act.put, List.setIfInBounds_toArray, List.set_cons_zero, List.set_cons_succ] <;> rfl) ?_
    refine W_store_row 32 g (lbz.arrv none 0 0) 32 (lbz.arrv none 0 0) rfl rfl HR2.out (by kernel_rfl) rfl (arrv_one _ _ _ _) ?_
    simp only [Act.put]
    refine Lin.take 5 rfl rfl (by go_simp <;> with_reducible rfl) (by simp only [Act.put, List.setIfInBounds_toArray, List.set_cons_zero, List.set_cons_succ] <;> rfl) ?_
    refine Lin.take 6 rfl rfl (by go_simp <;> with_reducible rfl) (by simp only [Act.put, List.setIfInBounds_toArray, List.set_cons_zero, List.set_cons_succ] <;> rfl) ?_
    refine Lin.done (hKF _ _ ?_)
    refine wp_ret ?_
    simp only [Exit.then]
    refine bodyPost_ret (results_row2 rfl _ _ g 32 (lbz.arrv none 0 0) _ rfl (setRow_at HR2.out) Try.underlying32 rfl (by kernel_rfl)) rfl ?_
    rw [hE]
    exact ⟨none, 0, 0, none, 0, 0, rfl, Sl.nilv _ _, Sl.nilv _ _, below_setRow (HB1.out.trans (HB2.out.mono (by have := HG.out; omega))) (by have := HG.out; omega) _⟩
  have hzI : ¬ (n1 : Int) = 0 := by omega
  have hcn : candL xs rd ≠ [] := fun h => hz (by rw [HNC.out, h]; rfl)
  refine Lin.begin ?_
  refine Lin.take 44 rfl rfl (by go_simp <;> with_reducible rfl) (by simp only [Act.put, List.setIfInBounds_toArray, List.set_cons_zero, List.set_cons_succ] <;> rfl) ?_
  refine Lin.take 45 rfl rfl (by go_simp <;> with_reducible rfl) (by simp only [Act.put, List.setIfInBounds_toArray, List.set_cons_zero, List.set_cons_succ] <;> rfl) ?_
  refine Lin.take 46 (v := .bool false) rfl rfl (by have h1 := hzI; go_simp <;> with_reducible rfl) (by simp only [Act.put, List.setIfInBounds_toArray, List.set_cons_zero, List.set_cons_succ] <;> rfl) ?_
  refine Lin.done (hKN _ _ ?_)
  refine wp_cond_false rfl ?_
  refine wp_skip ?_
  refine hK1 _ _ ?_
  clear hK1 K1 hKN KN hzI hz
  obtain ⟨b, hbe⟩ : ∃ b, b = chooseL xs (candL xs rd) := ⟨_, rfl⟩
  have hgen : ∀ i ∈ candL xs rd, 1 ≤ (lab xs i).gen := fun i hi => (valid_dk (candL_mem hi).2).2.2.2.2.2.1
  have hbm : b ∈ candL xs rd := by rw [hbe]; exact chooseL_mem (candL_nodup _ _) hcn hgen
  have hbl : b < xs.length := (candL_mem hbm).1
  have hbv := (candL_mem hbm).2
  have HCH := Lib.hid (choose_any xs a n c (candL xs rd) a1 n1 c1 w2 (HX.out.below HB2.out) HC2.out (fun i hi => (candL_mem hi).1) (candL_nodup _ _) (fun i hi => (valid_dk (candL_mem hi).2).1) (fun x hx => (HOK.out x hx).short) (by omega) (by omega) (sidesL_ne hcn hgen))
  rw [← hbe] at HCH
  have hbI : (b : Int) < n := by have := HLX.out; omega
  have hb0 : (0 : Int) ≤ (b : Int) := by omega
  have hlb := lab_lt hbl
  rw [hlb] at hbv
  have hox := HOK.out _ (List.getElem_mem hbl)
  have hdx := HX.out.dead _ (List.getElem_mem hbl)
  obtain ⟨x, hxe⟩ : ∃ x, x = xs[b] := ⟨_, rfl⟩
  rw [← hxe] at hlb hbv hox hdx
  have hvd := valid_dk hbv
  obtain ⟨m, hm⟩ : ∃ m : Nat, x.l.cd = (m : Int) := ⟨x.l.cd.toNat, by omega⟩
  have hm9 : m ≤ 1000 := by omega
  have hxn : x.nd = m := by have := hdx.len; rw [bb_length] at this; omega
  have HDX := Lib.hid hdx
  have HOX := Lib.hid hox
  have HBV := Lib.hid hbv
  have HLB := Lib.hid hlb
  have HBE := Lib.hid hbe
  have HM := Lib.hid hm
  have HXN := Lib.hid hxn
  have HXC := Lib.hid hdx.cap
  have HXL : Hid (x.l.dead.length = x.nd) := by have := hdx.len; rw [bb_length] at this; exact Lib.hid (by omega)
  have HCN := Lib.hid hcn
  clear hgen hbm hbv hlb hox hdx hbe hvd hm hxn hcn
  refine wp_seq_k (fun KA hKA => ?_)
  refine Lin.begin ?_
  refine Lin.take 48 rfl rfl (by go_simp <;> with_reducible rfl) (by simp only [Act.put, List.setIfInBounds_toArray, List.set_cons_zero, List.set_cons_succ] <;> rfl) ?_
  refine Lin.take 49 rfl rfl (by go_simp <;> with_reducible rfl) (by simp only [Act.put, List.setIfInBounds_toArray, List.set_cons_zero, List.set_cons_succ] <;> rfl) ?_
  refine Lin.take 50 rfl rfl (by go_simp <;> with_reducible rfl) (by simp only [Act.put, List.setIfInBounds_toArray, List.set_cons_zero, List.set_cons_succ] <;> rfl) ?_
  refine Lin.enter 51 rfl rfl (by go_simp <;> (first | exact ⟨rfl, rfl⟩ | rfl)) (v := .int .i64 (b : Int)) HCH.out (by simp only [Act.put, List.setIfInBounds_toArray, List.set_cons_zero, List.set_cons_succ] <;> rfl) ?_
  intro w3 hb3
  have HB3 := Lib.hid (HB2.out.trans (hb3.mono hs2))
  have hs3 := HB3.out.size
  have HC3 := Lib.hid (HC2.out.below hb3)
  have HX3 := Lib.hid (HX.out.below HB3.out)
  clear hb3
  obtain ⟨bL, oL, haL, hbL, rb⟩ := HX3.out.at hbl
  have RB : Hid (w3.rangeAt bL (oL + b * 19) x.arr.toList) := by rw [hxe]; exact Lib.hid rb
  subst haL
  clear rb
  refine Lin.take 52 (v := .pointer (some ⟨bL, oL + b * 19, none⟩)) rfl rfl (by have h1 := hbI; have h2 := hb0; have h3 := hcapL; go_simp <;> with_reducible rfl) (by simp only [Act.put, List.setIfInBounds_toArray, List.set_cons_zero, List.set_cons_succ] <;> rfl) ?_
  refine Lin.mid 53 true 32 _ bL (oL + b * 19) x.arr.toList _ (by kernel_rfl) rfl rfl (fun _ => rfl) RB.out Try.underlying32 rfl (by kernel_rfl) (by simp only [Act.put, List.setIfInBounds_toArray, List.set_cons_zero, List.set_cons_succ] <;> rfl) ?_
  refine Lin.takeW 10 rfl rfl (by go_simp; exact ⟨rfl, rfl⟩) (by simp only [Act.put, List.setIfInBounds_toArray, List.set_cons_zero, List.set_cons_succ] <;> rfl) ?_
  intro z1 hz1
  obtain ⟨q, hq⟩ : ∃ q, q = w3.heap.size := ⟨_, rfl⟩
  rw [← hq]
  have hrow1 : z1.heap[q]? = some (.cells (lbz.arrv none 0 0) 32 (0, 0)) := by rw [hz1, hq]; exact heap_alloc_new _ _
  have hb1 : Below w3.heap.size w3 z1 := by rw [hz1]; exact (Below.refl _ _).alloc (Nat.le_refl _) _
  have hzs1 : z1.heap.size = q + 1 := by rw [hz1, hq]; simp
  have HQ := Lib.hid hq
  clear hz1 hq
  refine W_store_row 32 q x.arr 32 (lbz.arrv none 0 0) rfl rfl hrow1 (by kernel_rfl) rfl (arrv_one _ _ _ _) ?_
  simp only [Act.put]
  obtain ⟨w4, hw4⟩ : ∃ y, y = z1.setRow q x.arr := ⟨_, rfl⟩
  rw [← hw4]
  have HR4 : Hid (w4.heap[q]? = some (.cells x.arr 32 (0, 0))) := by rw [hw4]; exact Lib.hid (setRow_at hrow1)
  have hb4 : Below w3.heap.size w3 w4 := by rw [hw4]; exact below_setRow hb1 (by have := HQ.out; omega) _
  have hs4 : w4.heap.size = q + 1 := by rw [hw4]; simpa using hzs1
  have HB4 := Lib.hid (HB3.out.trans (hb4.mono hs3))
  have HC4 := Lib.hid (HC3.out.below hb4)
  have HX4 := Lib.hid (HX3.out.below hb4)
  clear hw4 hb1 hrow1 hzs1 hb4 HX3 HC3 RB
  refine Lin.done (hKA _ _ ?_)
  clear hKA KA hxe
  have HLQ := Lib.hid (LbAt.of HR4.out)
  have KD : Hid (w4.cell? ⟨q, 4, none⟩ = some (.int .i64 (m : Int))) := by rw [← HM.out]; exact Lib.hid HLQ.out.k4
  refine wp_seq_k (fun KA hKA => ?_)
  refine Lin.begin ?_
  refine Lin.take 54 rfl rfl (by go_simp <;> with_reducible rfl) (by simp only [Act.put, List.setIfInBounds_toArray, List.set_cons_zero, List.set_cons_succ] <;> rfl) ?_
  refine Lin.take 55 rfl rfl (by go_simp <;> with_reducible rfl) (by simp only [Act.put, List.setIfInBounds_toArray, List.set_cons_zero, List.set_cons_succ] <;> rfl) ?_
  refine Lin.take 56 (v := .int .i64 (m : Int)) rfl rfl (by have hc := KD.out; go_simp <;> with_reducible rfl) (by simp only [Act.put, List.setIfInBounds_toArray, List.set_cons_zero, List.set_cons_succ] <;> rfl) ?_
  refine wpList_makeI w4 rfl rfl rfl rfl hm9 ?_
  intro w5 hown5 hg5
  simp only [Act.put, List.setIfInBounds_toArray, List.set_cons_zero, List.set_cons_succ] 
  have hb5 : Below w4.heap.size w4 w5 := (Below.refl _ _).grown hg5 (Nat.le_refl _) (by simp)
  obtain ⟨gA, hgA⟩ : ∃ gA, gA = w4.heap.size := ⟨_, rfl⟩
  rw [← hgA] at hown5
  rw [← hgA]
  have HO5 := Lib.hid hown5
  have HB5 := Lib.hid hb5
  have hs5 := hb5.size
  have HGA := Lib.hid hgA
  clear hown5 hg5 hb5 hgA
  refine Lin.take 11 rfl rfl (by go_simp <;> with_reducible rfl) (by simp only [Act.put, List.setIfInBounds_toArray, List.set_cons_zero, List.set_cons_succ] <;> rfl) ?_
  refine Lin.done (hKA _ _ ?_)
  clear hKA KA
  refine wp_seq_k (fun KL hKL => ?_)
  have HKL := Lib.hid hKL
  clear hKL
  go_wp2
  go_loopw [60] (fun iv wr => ∃ i : Nat, iv = .int .i64 (i : Int) ∧ i ≤ m ∧ Hid (wr.ownsRow gA 3 1 (.slice (some ⟨gA, 0, none⟩) m m) m (zc (fillL m i))) ∧ Hid (Below w4.heap.size w4 wr)) (fun iv _ => m - (intOf iv).toNat)
  case atStart => exact ⟨0, rfl, by omega, by simpa [fillL] using HO5, HB5⟩
  case round =>
  obtain ⟨i, rfl, him, HO, HBW⟩ := hrel
  by_cases hi : i < m
  · have hiI : (i : Int) < m := by omega
    have hi0 : (0 : Int) ≤ (i : Int) := by omega
    have hc : wr.cell? ⟨gA, i, none⟩ = some (.int .i64 0) := by rw [HO.out.cellAt i (by omega)]; exact fillL_get hi
    have hf : wr.frozen? ⟨gA, i, none⟩ = false := HO.out.frozenAt i
    go_wp2
    go_roundw
    case rel =>
      refine ⟨i + 1, by go_num, by omega, Lib.hid ?_, Lib.hid (HBW.out.setCell (p := ⟨gA, i, none⟩) (by rw [HGA.out]; exact Nat.le_refl _) _)⟩
      have h1 := (HO.out.stored i (.int .i64 (-1))).1
      rw [zc_set, fillL_set hi] at h1
      exact h1
    case measure => simp [intOf]; omega
  have hiI : ¬ (i : Int) < m := by omega
  obtain rfl : m = i := by omega
  go_wp2
  refine HKL.out _ _ ?_
  clear HKL
  obtain ⟨w6, hw6⟩ : ∃ w6, w6 = wr := ⟨_, rfl⟩
  subst hw6
  have HO6 : Hid (w6.ownsRow gA 3 1 (.slice (some ⟨gA, 0, none⟩) m m) m (zc (atL xs x.l []))) := by
    have h1 := HO.out
    rw [fillL_full] at h1
    have h2 : atL xs x.l [] = List.replicate m (-1) := by unfold atL; rw [HM.out]; simp
    rw [h2]
    exact Lib.hid h1
  have HB6 := HBW
  have hs6 := HBW.out.size
  clear him hiI hi HO HBW
  have HB14 : Hid (Below w1.heap.size w1 w4) := HB4
  have HC6 := Lib.hid (HC4.out.below HB6.out)
  have hcapC2 := HC6.out.cap
  refine wp_seq_k (fun KL hKL => ?_)
  have HKL := Lib.hid hKL
  clear hKL
  go_wp2
  go_loopw [69] (fun iv wr => ∃ i : Nat, iv = .int .i64 (i : Int) ∧ i ≤ n1 ∧ Hid (wr.ownsRow gA 3 1 (.slice (some ⟨gA, 0, none⟩) m m) m (zc (atL xs x.l ((candL xs rd).take i)))) ∧ Hid (Below w4.heap.size w4 wr)) (fun iv _ => n1 - (intOf iv).toNat)
  case atStart => exact ⟨0, rfl, by omega, by simpa using HO6, HB6⟩
  case round =>
  obtain ⟨i, rfl, hin, HO, HBW⟩ := hrel
  by_cases hi : i < n1
  · have hiI : (i : Int) < n1 := by omega
    have hi0 : (0 : Int) ≤ (i : Int) := by omega
    have hik : i < (candL xs rd).length := by have := HNC.out; omega
    obtain ⟨bC, oC, haC, hcellC⟩ := (HC4.out.below HBW.out).at (k := i) (by rw [ic_length]; exact hik)
    have hcC := hcellC i (by rw [ic_length]; exact hik)
    simp only [ic, List.getElem_map] at hcC
    have hstep : atL xs x.l ((candL xs rd).take (i + 1)) = stepAt xs x.l (atL xs x.l ((candL xs rd).take i)) ((candL xs rd)[i]) := by
      rw [List.take_succ_eq_append_getElem hik, atL_app]
    have hjm := candL_mem (List.getElem_mem hik)
    obtain ⟨j, hj⟩ : ∃ j, j = (candL xs rd)[i] := ⟨_, rfl⟩
    rw [← hj] at hcC hstep hjm
    have hjl := hjm.1
    have hjv := valid_dk hjm.2
    obtain ⟨bL', oL', haL, hbLr, r0⟩ := (HX4.out.below HBW.out).at hjl
    obtain ⟨rfl, rfl⟩ : bL = bL' ∧ oL = oL' := by simpa using haL
    have hlj := lab_lt hjl
    have hyd := HX4.out.dead _ (List.getElem_mem hjl)
    have hys := (HOK.out _ (List.getElem_mem hjl)).short
    rw [hlj] at hjv
    obtain ⟨y, hye⟩ : ∃ y, y = xs[j] := ⟨_, rfl⟩
    rw [← hye] at r0 hlj hyd hys hjv
    obtain ⟨zs, hzs⟩ : ∃ zs, zs = atL xs x.l ((candL xs rd).take i) := ⟨_, rfl⟩
    rw [← hzs] at HO hstep
    have hzl : zs.length = m := by have := HO.out.1; rw [zc_length] at this; omega
    have hzok : AtOk xs.length zs := by rw [hzs]; exact atL_ok _ _ rfl (fun k hk => (candL_mem (List.mem_of_mem_take hk)).1)
    have hjI : (j : Int) < n := by have := HLX.out; omega
    have hj0 : (0 : Int) ≤ (j : Int) := by omega
    obtain ⟨d, hd⟩ : ∃ d : Nat, y.l.dk = (d : Int) := ⟨y.l.dk.toNat, by omega⟩
    obtain ⟨E, hE⟩ : ∃ E, E = decide (y.l.equal x.l) := ⟨_, rfl⟩
    have RI := Lib.hid r0
    have HCC := Lib.hid hcC
    have HSTEP := Lib.hid hstep
    have HJV := Lib.hid hjv
    have HLJ := Lib.hid hlj
    have HDY := Lib.hid (hyd.below HBW.out)
    have HDE := Lib.hid ((HDX.out.below (HB4.out)).below HBW.out)
    have HYS := Lib.hid hys
    have HZL := Lib.hid hzl
    have HZO := Lib.hid hzok
    have HD := Lib.hid hd
    have HE := Lib.hid hE
    have hqr : q < wr.heap.size := by have := HBW.out.size; omega
    have HLQ := Lib.hid (HLQ.out.below HBW.out (by omega))
    have HIX : Hid (y.l.cfgSame x.l → 0 ≤ y.l.dk ∧ y.l.dk < x.nd) := by
      refine Lib.hid fun h => ?_
      have h1 : y.l.cd = x.l.cd := h.1
      have h2 := HM.out
      have h3 := HXN.out
      have h4 := HJV.out
      omega
    subst haC
    clear hcellC hcC hstep hjm hjv r0 haL hlj hyd hys hye hj hzs hzl hzok hd hE
    refine wp_seq_k (fun KA hKA => ?_)
    refine Lin.begin ?_
    refine Lin.take 70 (v := .bool true) rfl rfl (by have h1 := hiI; go_simp <;> with_reducible rfl) (by simp only [Act.put, List.setIfInBounds_toArray, List.set_cons_zero, List.set_cons_succ] <;> rfl) ?_
    refine Lin.done (hKA _ _ ?_)
    refine wp_seq_k (fun KB hKB => ?_)
    refine wp_cond_true rfl ?_
    refine wp_skip ?_
    refine hKB _ _ ?_
    clear hKA hKB KA KB
    refine wp_seq_k (fun KC hKC => ?_)
    refine wp_block ?_
    refine wp_seq_k (fun KD hKD => ?_)
    refine Lin.begin ?_
    refine Lin.take 71 rfl rfl (by have h1 := hiI; have h2 := hi0; have h3 := hcapC; go_simp <;> with_reducible rfl) (by simp only [Act.put, List.setIfInBounds_toArray, List.set_cons_zero, List.set_cons_succ] <;> rfl) ?_
    refine Lin.take 72 rfl rfl (by have hc := HCC.out; go_simp <;> with_reducible rfl) (by simp only [Act.put, List.setIfInBounds_toArray, List.set_cons_zero, List.set_cons_succ] <;> rfl) ?_
    refine Lin.take 14 rfl rfl (by go_simp <;> with_reducible rfl) (by simp only [Act.put, List.setIfInBounds_toArray, List.set_cons_zero, List.set_cons_succ] <;> rfl) ?_
    refine Lin.done (hKD _ _ ?_)
    clear hKD KD
    refine wp_seq_k (fun KD hKD => ?_)
    refine Lin.begin ?_
    refine Lin.take 73 rfl rfl (by go_simp <;> with_reducible rfl) (by simp only [Act.put, List.setIfInBounds_toArray, List.set_cons_zero, List.set_cons_succ] <;> rfl) ?_
    refine Lin.take 74 rfl rfl (by go_simp <;> with_reducible rfl) (by simp only [Act.put, List.setIfInBounds_toArray, List.set_cons_zero, List.set_cons_succ] <;> rfl) ?_
    refine Lin.take 75 (v := .pointer (some ⟨bL, oL + j * 19, none⟩)) rfl rfl (by have h1 := hjI; have h2 := hj0; have h3 := hcapL; go_simp <;> with_reducible rfl) (by simp only [Act.put, List.setIfInBounds_toArray, List.set_cons_zero, List.set_cons_succ] <;> rfl) ?_
    refine Lin.mid 76 true 32 _ bL (oL + j * 19) y.arr.toList _ (by kernel_rfl) rfl rfl (fun _ => rfl) RI.out Try.underlying32 rfl (by kernel_rfl) (by simp only [Act.put, List.setIfInBounds_toArray, List.set_cons_zero, List.set_cons_succ] <;> rfl) ?_
    refine Lin.takeW 15 rfl rfl (by go_simp; exact ⟨rfl, rfl⟩) (by simp only [Act.put, List.setIfInBounds_toArray, List.set_cons_zero, List.set_cons_succ] <;> rfl) ?_
    intro z1 hz1
    obtain ⟨p, hp⟩ : ∃ p, p = wr.heap.size := ⟨_, rfl⟩
    rw [← hp]
    have hrow1 : z1.heap[p]? = some (.cells (lbz.arrv none 0 0) 32 (0, 0)) := by rw [hz1, hp]; exact heap_alloc_new _ _
    have hb1 : Below wr.heap.size wr z1 := by rw [hz1]; exact (Below.refl _ _).alloc (Nat.le_refl _) _
    have hzs1 : z1.heap.size = p + 1 := by rw [hz1, hp]; simp
    have HP := Lib.hid hp
    clear hz1 hp
    refine W_store_row 32 p y.arr 32 (lbz.arrv none 0 0) rfl rfl hrow1 (by kernel_rfl) rfl (arrv_one _ _ _ _) ?_
    simp only [Act.put]
    obtain ⟨z2, hz2⟩ : ∃ y0, y0 = z1.setRow p y.arr := ⟨_, rfl⟩
    rw [← hz2]
    have HL2 : Hid (LbAt y.l y.ad y.nd y.c p z2) := by rw [hz2]; exact Lib.hid (LbAt.of (setRow_at hrow1))
    have HB2 : Hid (Below wr.heap.size wr z2) := by rw [hz2]; exact Lib.hid (below_setRow hb1 (by have := HP.out; omega) _)
    have hzs2 : z2.heap.size = p + 1 := by rw [hz2]; simpa using hzs1
    clear hz2 hb1 hrow1
    refine Lin.done (hKD _ _ ?_)
    clear hKD KD
    refine wp_seq_k (fun KD hKD => ?_)
    refine Lin.begin ?_
    refine Lin.mid 77 true 32 _ p 0 y.arr.toList _ (by kernel_rfl) rfl rfl (fun _ => rfl) HL2.out.range Try.underlying32 rfl (by kernel_rfl) (by simp only [Act.put, List.setIfInBounds_toArray, List.set_cons_zero, List.set_cons_succ] <;> rfl) ?_
    refine Lin.mid 78 true 32 _ q 0 x.arr.toList _ (by kernel_rfl) rfl rfl (fun _ => rfl) (HLQ.out.below HB2.out hqr).range Try.underlying32 rfl (by kernel_rfl) (by simp only [Act.put, List.setIfInBounds_toArray, List.set_cons_zero, List.set_cons_succ] <;> rfl) ?_
    have HEQ : Hid (Calls Try.prog 24 #[.agg y.arr.toList.toArray, .agg x.arr.toList.toArray] z2 fun e w' => e = .returned (.bool E) ∧ Below z2.heap.size z2 w') := by
      have h9 := equal_any y.l x.l y.ad x.ad y.nd x.nd y.c x.c z2 (HDY.out.below HB2.out) (HDE.out.below HB2.out) HYS.out
      rw [← HE.out] at h9
      exact Lib.hid h9
    refine Lin.enter 79 rfl rfl (by simp only [gv_true]; go_simp <;> (first | exact ⟨rfl, rfl⟩ | rfl)) HEQ.out (by simp only [Act.put, List.setIfInBounds_toArray, List.set_cons_zero, List.set_cons_succ] <;> rfl) ?_
    intro z3 hb3
    have hz3 := hb3.size
    have HL3 := Lib.hid (HL2.out.below hb3 (by omega))
    have HB3 := Lib.hid (HB2.out.trans (hb3.mono (by have := HP.out; omega)))
    have HQ3 := Lib.hid (HLQ.out.below HB3.out hqr)
    clear hb3
    refine Lin.take 16 rfl rfl (by go_simp <;> with_reducible rfl) (by simp only [Act.put, List.setIfInBounds_toArray, List.set_cons_zero, List.set_cons_succ] <;> rfl) ?_
    refine Lin.done (hKD _ _ ?_)
    clear hKD KD
    refine wp_seq_k (fun KE hKE => ?_)
    refine wp_seq_k (fun KF hKF => ?_)
    refine Lin.begin ?_
    refine Lin.take 80 rfl rfl (by go_simp <;> with_reducible rfl) (by simp only [Act.put, List.setIfInBounds_toArray, List.set_cons_zero, List.set_cons_succ] <;> rfl) ?_
    refine Lin.take 81 rfl rfl (by obtain ⟨k0, k1, k2, k3, k4, k5, k6, k7, k8, k9, k10, k11, k12, k13, k14, k15, k16, k17, k18⟩ := HL3.out; go_simp <;> with_reducible rfl) (by simp only [Act.put, List.setIfInBounds_toArray, List.set_cons_zero, List.set_cons_succ] <;> rfl) ?_
    refine Lin.take 82 rfl rfl (by go_simp <;> with_reducible rfl) (by simp only [Act.put, List.setIfInBounds_toArray, List.set_cons_zero, List.set_cons_succ] <;> rfl) ?_
    refine Lin.take 83 rfl rfl (by obtain ⟨k0, k1, k2, k3, k4, k5, k6, k7, k8, k9, k10, k11, k12, k13, k14, k15, k16, k17, k18⟩ := HQ3.out; go_simp <;> with_reducible rfl) (by simp only [Act.put, List.setIfInBounds_toArray, List.set_cons_zero, List.set_cons_succ] <;> rfl) ?_
    refine Lin.take 84 rfl rfl (by go_simp <;> with_reducible rfl) (by simp only [Act.put, List.setIfInBounds_toArray, List.set_cons_zero, List.set_cons_succ] <;> rfl) ?_
    refine Lin.bool 85 rfl rfl (by go_simp <;> with_reducible rfl) ?_
    intro B85 hB85 aa ha; simp only [Act.put, List.setIfInBounds_toArray, List.set_cons_zero, List.set_cons_succ] at ha; subst ha; replace hB85 := Lib.hid hB85
    refine Lin.may 86 (!B85) (by cases B85 <;> kernel_rfl) rfl (by intro hc; (try simp only [hc, gv_true]); go_simp <;> with_reducible rfl) (by simp only [Act.put, List.setIfInBounds_toArray, List.set_cons_zero, List.set_cons_succ] <;> rfl) ?_
    refine Lin.mid 87 (!B85) 30 _ p 4 y.l.cfgv.toList _ (by cases B85 <;> kernel_rfl) rfl rfl (fun hc => by (try simp only [hc, gv_true]); rfl) HL3.out.cfg Try.underlying30 rfl (by kernel_rfl) (by simp only [Act.put, List.setIfInBounds_toArray, List.set_cons_zero, List.set_cons_succ] <;> rfl) ?_
    refine Lin.may 88 (!B85) (by cases B85 <;> kernel_rfl) rfl (by intro hc; (try simp only [hc, gv_true]); go_simp <;> with_reducible rfl) (by simp only [Act.put, List.setIfInBounds_toArray, List.set_cons_zero, List.set_cons_succ] <;> rfl) ?_
    refine Lin.mid 89 (!B85) 30 _ q 4 x.l.cfgv.toList _ (by cases B85 <;> kernel_rfl) rfl rfl (fun hc => by (try simp only [hc, gv_true]); rfl) HQ3.out.cfg Try.underlying30 rfl (by kernel_rfl) (by simp only [Act.put, List.setIfInBounds_toArray, List.set_cons_zero, List.set_cons_succ] <;> rfl) ?_
    refine Lin.may 90 (!B85) (v := .bool (!decide (y.l.cfgSame x.l))) (by cases B85 <;> kernel_rfl) rfl (by intro hc; simp only [hc, gv_true]; exact cfgNe_run y.l x.l rfl rfl rfl _) (by simp only [Act.put, List.setIfInBounds_toArray, List.set_cons_zero, List.set_cons_succ] <;> rfl) ?_
    refine Lin.or 91 85 90 rfl rfl rfl rfl rfl ?_
    intro B91 hB91 aa ha; simp only [Act.put, List.setIfInBounds_toArray, List.set_cons_zero, List.set_cons_succ] at ha; subst ha; replace hB91 := Lib.hid hB91
    refine Lin.take 92 rfl rfl (by go_simp <;> with_reducible rfl) (by simp only [Act.put, List.setIfInBounds_toArray, List.set_cons_zero, List.set_cons_succ] <;> rfl) ?_
    refine Lin.may 93 (!B91) (by cases B91 <;> kernel_rfl) rfl (by intro hc; (try simp only [hc, gv_true]); go_simp <;> with_reducible rfl) (by simp only [Act.put, List.setIfInBounds_toArray, List.set_cons_zero, List.set_cons_succ] <;> rfl) ?_
    refine Lin.may 94 (!B91) (v := .slice x.ad x.nd x.c) (by cases B91 <;> kernel_rfl) rfl (by intro hc; (try simp only [hc, gv_true]); obtain ⟨k0, k1, k2, k3, k4, k5, k6, k7, k8, k9, k10, k11, k12, k13, k14, k15, k16, k17, k18⟩ := HQ3.out; go_simp <;> with_reducible rfl) (by simp only [Act.put, List.setIfInBounds_toArray, List.set_cons_zero, List.set_cons_succ] <;> rfl) ?_
    refine Lin.may 95 (!B91) (by cases B91 <;> kernel_rfl) rfl (by intro hc; (try simp only [hc, gv_true]); go_simp <;> with_reducible rfl) (by simp only [Act.put, List.setIfInBounds_toArray, List.set_cons_zero, List.set_cons_succ] <;> rfl) ?_
    refine Lin.may 96 (!B91) (by cases B91 <;> kernel_rfl) rfl (by intro hc; (try simp only [hc, gv_true]); obtain ⟨k0, k1, k2, k3, k4, k5, k6, k7, k8, k9, k10, k11, k12, k13, k14, k15, k16, k17, k18⟩ := HL3.out; go_simp <;> with_reducible rfl) (by simp only [Act.put, List.setIfInBounds_toArray, List.set_cons_zero, List.set_cons_succ] <;> rfl) ?_
    refine Lin.may 97 (!B91) (v := ixv x.ad y.l.dk) (by cases B91 <;> kernel_rfl) rfl (by intro hc; (try simp only [hc, gv_true]); have hx := HIX.out (by rw [hB91.out] at hc; simp at hc; exact hc.2); have hn := HXL.out; obtain ⟨hx0, hx1⟩ := hx; obtain ⟨b1, o1, hae, hcell⟩ := (HDE.out.below HB3.out).at (k := y.l.dk.toNat) (by rw [bb_length]; omega); rw [hae]; have hcap := HXC.out; simp only [ixv]; clear hn hcell; go_simp <;> (intros; omega)) (by simp only [Act.put, List.setIfInBounds_toArray, List.set_cons_zero, List.set_cons_succ] <;> rfl) ?_
    refine Lin.may 98 (!B91) (v := .bool (inDead x.l.dead y.l.dk)) (by cases B91 <;> kernel_rfl) rfl (by intro hc; (try simp only [hc, gv_true]); have hx := HIX.out (by rw [hB91.out] at hc; simp at hc; exact hc.2); have hn := HXL.out; obtain ⟨hx0, hx1⟩ := hx; obtain ⟨b1, o1, hae, hcell⟩ := (HDE.out.below HB3.out).at (k := y.l.dk.toNat) (by rw [bb_length]; omega); rw [hae]; have hk := hcell y.l.dk.toNat (by rw [bb_length]; omega); simp only [ixv]; simp only [bb, List.getElem_map] at hk; rw [inDead_get (by omega : y.l.dk.toNat < x.l.dead.length)]; clear hcell; go_simp) (by simp only [Act.put, List.setIfInBounds_toArray, List.set_cons_zero, List.set_cons_succ] <;> rfl) ?_
    refine Lin.or 99 92 98 rfl rfl rfl rfl rfl ?_
    intro B99 hB99 aa ha; simp only [Act.put, List.setIfInBounds_toArray, List.set_cons_zero, List.set_cons_succ] at ha; subst ha; replace hB99 := Lib.hid hB99
    refine Lin.take 100 rfl rfl (by go_simp <;> with_reducible rfl) (by simp only [Act.put, List.setIfInBounds_toArray, List.set_cons_zero, List.set_cons_succ] <;> rfl) ?_
    refine Lin.may 101 (!B99) (by cases B99 <;> kernel_rfl) rfl (by intro hc; (try simp only [hc, gv_true]); go_simp <;> with_reducible rfl) (by simp only [Act.put, List.setIfInBounds_toArray, List.set_cons_zero, List.set_cons_succ] <;> rfl) ?_
    refine Lin.may 102 (!B99) (v := .bool (!E)) (by cases B99 <;> kernel_rfl) rfl (by intro hc; (try simp only [hc, gv_true]); go_simp <;> with_reducible rfl) (by simp only [Act.put, List.setIfInBounds_toArray, List.set_cons_zero, List.set_cons_succ] <;> rfl) ?_
    refine Lin.may 103 (!B99) (v := .bool (!E)) (by cases B99 <;> kernel_rfl) rfl (by intro hc; (try simp only [hc, gv_true]); go_simp <;> with_reducible rfl) (by simp only [Act.put, List.setIfInBounds_toArray, List.set_cons_zero, List.set_cons_succ] <;> rfl) ?_
    refine Lin.may 104 (!B99 && !E) (by cases B99 <;> cases E <;> kernel_rfl) rfl (by intro hc; (try simp only [hc, gv_true]); go_simp <;> with_reducible rfl) (by simp only [Act.put, List.setIfInBounds_toArray, List.set_cons_zero, List.set_cons_succ] <;> rfl) ?_
    refine Lin.may 105 (!B99 && !E) (by cases B99 <;> cases E <;> kernel_rfl) rfl (by intro hc; (try simp only [hc, gv_true]); obtain ⟨k0, k1, k2, k3, k4, k5, k6, k7, k8, k9, k10, k11, k12, k13, k14, k15, k16, k17, k18⟩ := HL3.out; go_simp <;> with_reducible rfl) (by simp only [Act.put, List.setIfInBounds_toArray, List.set_cons_zero, List.set_cons_succ] <;> rfl) ?_
    refine Lin.may 106 (!B99 && !E) (by cases B99 <;> cases E <;> kernel_rfl) rfl (by intro hc; (try simp only [hc, gv_true]); go_simp <;> with_reducible rfl) (by simp only [Act.put, List.setIfInBounds_toArray, List.set_cons_zero, List.set_cons_succ] <;> rfl) ?_
    refine Lin.may 107 (!B99 && !E) (by cases B99 <;> cases E <;> kernel_rfl) rfl (by intro hc; (try simp only [hc, gv_true]); obtain ⟨k0, k1, k2, k3, k4, k5, k6, k7, k8, k9, k10, k11, k12, k13, k14, k15, k16, k17, k18⟩ := HQ3.out; go_simp <;> with_reducible rfl) (by simp only [Act.put, List.setIfInBounds_toArray, List.set_cons_zero, List.set_cons_succ] <;> rfl) ?_
    refine Lin.may 108 (!B99 && !E) (v := .bool (!decide (y.l.gen = x.l.prev))) (by cases B99 <;> cases E <;> kernel_rfl) rfl (by intro hc; (try simp only [hc, gv_true]); obtain ⟨k0, k1, k2, k3, k4, k5, k6, k7, k8, k9, k10, k11, k12, k13, k14, k15, k16, k17, k18⟩ := HL3.out; go_simp <;> rfl) (by simp only [Act.put, List.setIfInBounds_toArray, List.set_cons_zero, List.set_cons_succ] <;> rfl) ?_
    refine Lin.may 109 (!B99) (v := .bool (!E && !decide (y.l.gen = x.l.prev))) (by cases B99 <;> kernel_rfl) rfl (by intro hc; (try simp only [hc, gv_true, Bool.true_and]); cases E <;> (simp only [gv_true, gv_false, Bool.not_true, Bool.not_false]; go_simp)) (by simp only [Act.put, List.setIfInBounds_toArray, List.set_cons_zero, List.set_cons_succ] <;> rfl) ?_
    refine Lin.or 110 100 109 rfl rfl rfl rfl rfl ?_
    intro B110 hB110 aa ha; simp only [Act.put, List.setIfInBounds_toArray, List.set_cons_zero, List.set_cons_succ] at ha; subst ha; replace hB110 := Lib.hid hB110
    refine Lin.done (hKF _ _ ?_)
    clear hKF KF
    have hq : qualL x.l y.l = !B110 := by
      rw [hB110.out, hB99.out, hB91.out, hB85.out, HE.out]
      unfold qualL
      by_cases h1 : y.l.arr = x.l.arr <;> by_cases h2 : y.l.cfgSame x.l <;> cases inDead x.l.dead y.l.dk <;> by_cases h4 : y.l.equal x.l <;> by_cases h5 : y.l.gen = x.l.prev <;> simp [h1, h2, h4, h5]
    have HQL := Lib.hid hq
    have HO3 := Lib.hid (owns_belowI HO.out HB3.out)
    have HBW3 := Lib.hid (HBW.out.trans (HB3.out.mono HBW.out.size))
    clear hq hB110 hB99 hB91 hB85 HE HEQ HIX
    refine wp_cond_split rfl (fun ht => ?_) (fun hf => ?_)
    · rw [ht] at HQL
      clear ht
      refine wp_exit ?_
      (try simp only [Exit.inBlock, Exit.then])
      refine hKC _ _ ?_
      go_wp2
      go_roundw
      case rel => exact ⟨i + 1, by go_num, by omega, by rw [HSTEP.out, stepAt_no HLJ.out HQL.out]; exact HO3, HBW3⟩
      case measure => simp [intOf]; omega
    rw [hf] at HQL
    clear hf
    refine wp_skip ?_
    refine hKE _ _ ?_
    clear hKE KE
    have hdm : d < m := by
      have h1 := HQL.out
      unfold qualL at h1
      simp only [Bool.not_false, Bool.and_eq_true, decide_eq_true_eq] at h1
      have h2 : y.l.cd = x.l.cd := h1.1.1.2.1
      have h3 := HM.out
      have h4 := HJV.out
      have h5 := HD.out
      omega
    have hdI : (d : Int) < m := by omega
    have hd0 : (0 : Int) ≤ (d : Int) := by omega
    have hdz : d < zs.length := by have := HZL.out; omega
    obtain ⟨z, hze⟩ : ∃ z, z = zs[d] := ⟨_, rfl⟩
    have hzg : zs.getD d 0 = z := by rw [hze, List.getD_eq_getElem?_getD, List.getElem?_eq_getElem hdz]; rfl
    have hzok := HZO.out z (by rw [hze]; exact List.getElem_mem hdz)
    have KDK : Hid (z3.cell? ⟨p, 1, none⟩ = some (.int .i64 (d : Int))) := by rw [← HD.out]; exact Lib.hid HL3.out.k1
    have HZC : Hid (z3.cell? ⟨gA, d, none⟩ = some (.int .i64 z)) := by
      rw [HO3.out.cellAt d (by omega), hze]
      exact Lib.hid (by unfold zc; rw [List.getElem?_map, List.getElem?_eq_getElem hdz]; rfl)
    have HZG := Lib.hid hzg
    have HZK := Lib.hid hzok
    clear hzg hze hzok hdz
    refine wp_seq_k (fun KD hKD => ?_)
    refine Lin.begin ?_
    refine Lin.take 111 rfl rfl (by go_simp <;> with_reducible rfl) (by simp only [Act.put, List.setIfInBounds_toArray, List.set_cons_zero, List.set_cons_succ] <;> rfl) ?_
    refine Lin.take 112 rfl rfl (by go_simp <;> with_reducible rfl) (by simp only [Act.put, List.setIfInBounds_toArray, List.set_cons_zero, List.set_cons_succ] <;> rfl) ?_
    refine Lin.take 113 rfl rfl (by have hc := KDK.out; go_simp <;> with_reducible rfl) (by simp only [Act.put, List.setIfInBounds_toArray, List.set_cons_zero, List.set_cons_succ] <;> rfl) ?_
    refine Lin.take 114 (v := .pointer (some ⟨gA, d, none⟩)) rfl rfl (by have h1 := hdI; have h2 := hd0; go_simp <;> (first | with_reducible rfl | simp)) (by simp only [Act.put, List.setIfInBounds_toArray, List.set_cons_zero, List.set_cons_succ] <;> rfl) ?_
    refine Lin.take 115 rfl rfl (by have hc := HZC.out; go_simp <;> with_reducible rfl) (by simp only [Act.put, List.setIfInBounds_toArray, List.set_cons_zero, List.set_cons_succ] <;> rfl) ?_
    refine Lin.take 17 rfl rfl (by go_simp <;> with_reducible rfl) (by simp only [Act.put, List.setIfInBounds_toArray, List.set_cons_zero, List.set_cons_succ] <;> rfl) ?_
    refine Lin.done (hKD _ _ ?_)
    clear hKD KD
    refine wp_seq_k (fun KG hKG => ?_)
    have hKK := Lib.hid hKG
    clear hKG
    have HB := Lib.hid (show Below z3.heap.size z3 z3.drew from (Below.refl _ _).drew)
    have hs : z3.heap.size ≤ z3.drew.heap.size := Nat.le_refl _
    by_cases hz0 : z < 0
    · have hset : stepAt xs x.l zs j = zs.set d (j : Int) := stepAt_set HLJ.out HQL.out HD.out (.inl (by rw [HZG.out]; exact hz0))
      have HSET := Lib.hid hset
      clear hset
      refine Rest.begin 12 (by kernel_rfl) (by kernel_rfl) ?_
      refine Rest.take 0 116 rfl (by kernel_rfl) (by kernel_rfl) (by kernel_rfl) (fun _ _ _ h => h) (by rfl) (by rfl) (by intro x hx; go_simp <;> with_reducible rfl) (by simp only [Act.put, List.setIfInBounds_toArray, List.set_cons_zero, List.set_cons_succ] <;> rfl) ?_
      refine Rest.take 1 117 (v := .bool true) rfl (by kernel_rfl) (by kernel_rfl) (by kernel_rfl) (fun _ _ _ h => h) (by rfl) (by rfl) (by intro x hx; have h1 := hz0; go_simp <;> with_reducible rfl) (by simp only [Act.put, List.setIfInBounds_toArray, List.set_cons_zero, List.set_cons_succ] <;> rfl) ?_
      refine Rest.take 2 118 rfl (by kernel_rfl) (by kernel_rfl) (by kernel_rfl) (fun _ _ _ h => h) (by rfl) (by rfl) (by intro x hx; go_simp <;> with_reducible rfl) (by simp only [Act.put, List.setIfInBounds_toArray, List.set_cons_zero, List.set_cons_succ] <;> rfl) ?_
      refine Rest.skip 3 119 rfl (by kernel_rfl) (by kernel_rfl) (by kernel_rfl) (fun _ _ _ h => h) (by rfl) (by rfl) (by simp only [Act.put, List.setIfInBounds_toArray, List.set_cons_zero, List.set_cons_succ] <;> rfl) ?_
      refine Rest.skip 4 120 rfl (by kernel_rfl) (by kernel_rfl) (by kernel_rfl) (fun _ _ _ h => h) (by rfl) (by rfl) (by simp only [Act.put, List.setIfInBounds_toArray, List.set_cons_zero, List.set_cons_succ] <;> rfl) ?_
      refine Rest.skip 5 121 rfl (by kernel_rfl) (by kernel_rfl) (by kernel_rfl) (fun _ _ _ h => h) (by rfl) (by rfl) (by simp only [Act.put, List.setIfInBounds_toArray, List.set_cons_zero, List.set_cons_succ] <;> rfl) ?_
      refine Rest.skip 6 122 rfl (by kernel_rfl) (by kernel_rfl) (by kernel_rfl) (fun _ _ _ h => h) (by rfl) (by rfl) (by simp only [Act.put, List.setIfInBounds_toArray, List.set_cons_zero, List.set_cons_succ] <;> rfl) ?_
      refine Rest.skip 7 123 rfl (by kernel_rfl) (by kernel_rfl) (by kernel_rfl) (fun _ _ _ h => h) (by rfl) (by rfl) (by simp only [Act.put, List.setIfInBounds_toArray, List.set_cons_zero, List.set_cons_succ] <;> rfl) ?_
      refine Rest.skip 8 124 rfl (by kernel_rfl) (by kernel_rfl) (by kernel_rfl) (fun _ _ _ h => h) (by rfl) (by rfl) (by simp only [Act.put, List.setIfInBounds_toArray, List.set_cons_zero, List.set_cons_succ] <;> rfl) ?_
      refine Rest.skip 9 125 rfl (by kernel_rfl) (by kernel_rfl) (by kernel_rfl) (fun _ _ _ h => h) (by rfl) (by rfl) (by simp only [Act.put, List.setIfInBounds_toArray, List.set_cons_zero, List.set_cons_succ] <;> rfl) ?_
      refine Rest.skip 10 126 rfl (by kernel_rfl) (by kernel_rfl) (by kernel_rfl) (fun _ _ _ h => h) (by rfl) (by rfl) (by simp only [Act.put, List.setIfInBounds_toArray, List.set_cons_zero, List.set_cons_succ] <;> rfl) ?_
      refine Rest.take 11 127 rfl (by kernel_rfl) (by kernel_rfl) (by kernel_rfl) (fun _ _ _ h => h) (by rfl) (by rfl) (by intro x hx; go_simp <;> with_reducible rfl) (by simp only [Act.put, List.setIfInBounds_toArray, List.set_cons_zero, List.set_cons_succ] <;> rfl) ?_
      refine Rest.done (by kernel_rfl) ?_
      refine hKK.out _ _ ?_
      refine wp_cond_true rfl ?_
      refine Lin.begin ?_
      refine Lin.take 128 rfl rfl (by go_simp <;> with_reducible rfl) (by simp only [Act.put, List.setIfInBounds_toArray, List.set_cons_zero, List.set_cons_succ] <;> rfl) ?_
      refine Lin.take 129 rfl rfl (by go_simp <;> with_reducible rfl) (by simp only [Act.put, List.setIfInBounds_toArray, List.set_cons_zero, List.set_cons_succ] <;> rfl) ?_
      refine Lin.take 130 rfl rfl (by have hc := below_cell HB.out (World.block_lt_of_cell? z3 _ KDK.out) KDK.out; go_simp <;> with_reducible rfl) (by simp only [Act.put, List.setIfInBounds_toArray, List.set_cons_zero, List.set_cons_succ] <;> rfl) ?_
      refine Lin.take 131 rfl rfl (by go_simp <;> with_reducible rfl) (by simp only [Act.put, List.setIfInBounds_toArray, List.set_cons_zero, List.set_cons_succ] <;> rfl) ?_
      refine Lin.take 132 (v := .pointer (some ⟨gA, d, none⟩)) rfl rfl (by have h1 := hdI; have h2 := hd0; go_simp <;> (first | with_reducible rfl | simp)) (by simp only [Act.put, List.setIfInBounds_toArray, List.set_cons_zero, List.set_cons_succ] <;> rfl) ?_
      have HO5 := Lib.hid (owns_belowI HO3.out HB.out)
      refine Lin.store (w' := z3.drew.setCell ⟨gA, d, none⟩ (.int .i64 (j : Int))) rfl (by have hc := below_cell HB.out (World.block_lt_of_cell? z3 _ HZC.out) HZC.out; have hf := HO5.out.frozenAt d; go_simp <;> (first | exact ⟨rfl, rfl⟩ | rfl)) (by simp only [Act.put] <;> rfl) ?_
      intro z9 hz9
      have HO9 : Hid (z9.ownsRow gA 3 1 (.slice (some ⟨gA, 0, none⟩) m m) m (zc (stepAt xs x.l zs j))) := by
        have h1 := (HO5.out.stored d (.int .i64 (j : Int))).1
        rw [zc_set, ← HSET.out] at h1
        rw [hz9]
        exact Lib.hid h1
      have HB9 : Hid (Below w4.heap.size w4 z9) := by rw [hz9]; exact Lib.hid ((HBW3.out.trans (HB.out.mono HBW3.out.size)).setCell (p := ⟨gA, d, none⟩) (by rw [HGA.out]; exact Nat.le_refl _) _)
      clear hz9
      refine Lin.end ?_
      simp only [Exit.inBlock, Exit.then]
      refine hKC _ _ ?_
      go_wp2
      go_roundw
      case rel => exact ⟨i + 1, by go_num, by omega, by rw [HSTEP.out]; exact HO9, HB9⟩
      case measure => simp [intOf]; omega
    · obtain ⟨k, hk⟩ : ∃ k : Nat, z = (k : Int) := ⟨z.toNat, by omega⟩
      have hkl : k < xs.length := by have := HZK.out; omega
      obtain ⟨b3, o3, ha3, hb3, r3⟩ := (HX4.out.below HBW3.out).at hkl
      obtain ⟨rfl, rfl⟩ : bL = b3 ∧ oL = o3 := by simpa using ha3
      have hc3 : z3.cell? ⟨bL, oL + k * 19 + 2, none⟩ = some (.int .u64 xs[k].l.gen) := r3 2 _ rfl
      rw [← lab_lt hkl] at hc3
      have hkI : (k : Int) < n := by have := HLX.out; omega
      have hk0 : (0 : Int) ≤ (k : Int) := by omega
      obtain ⟨G, hG⟩ : ∃ G, G = (lab xs k).gen := ⟨_, rfl⟩
      rw [← hG] at hc3
      have HGK : Hid ((lab xs (zs.getD d 0).toNat).gen = G) := by rw [HZG.out, hk, hG]; exact Lib.hid rfl
      have CG : Hid (∀ x, Below z3.heap.size z3 x → x.cell? ⟨bL, oL + k * 19 + 2, none⟩ = some (.int .u64 G)) := Lib.hid fun x hx => below_cell hx hb3 hc3
      have CP : Hid (∀ x, Below z3.heap.size z3 x → x.cell? ⟨p, 2, none⟩ = some (.int .u64 y.l.gen)) := Lib.hid fun x hx => below_cell hx (by omega) HL3.out.k2
      have HK0 : Hid (¬ zs.getD d 0 < 0) := by rw [HZG.out]; exact Lib.hid hz0
      subst hk
      clear hG hc3 ha3 r3
      refine Rest.begin 12 (by kernel_rfl) (by kernel_rfl) ?_
      refine Rest.take 0 116 rfl (by kernel_rfl) (by kernel_rfl) (by kernel_rfl) (fun _ _ _ h => h) (by rfl) (by rfl) (by intro x hx; go_simp <;> with_reducible rfl) (by simp only [Act.put, List.setIfInBounds_toArray, List.set_cons_zero, List.set_cons_succ] <;> rfl) ?_
      refine Rest.take 1 117 (v := .bool false) rfl (by kernel_rfl) (by kernel_rfl) (by kernel_rfl) (fun _ _ _ h => h) (by rfl) (by rfl) (by intro x hx; have h1 := hz0; go_simp <;> with_reducible rfl) (by simp only [Act.put, List.setIfInBounds_toArray, List.set_cons_zero, List.set_cons_succ] <;> rfl) ?_
      refine Rest.take 2 118 rfl (by kernel_rfl) (by kernel_rfl) (by kernel_rfl) (fun _ _ _ h => h) (by rfl) (by rfl) (by intro x hx; go_simp <;> with_reducible rfl) (by simp only [Act.put, List.setIfInBounds_toArray, List.set_cons_zero, List.set_cons_succ] <;> rfl) ?_
      refine Rest.take 3 119 rfl (by kernel_rfl) (by kernel_rfl) (by kernel_rfl) (fun _ _ _ h => h) (by rfl) (by rfl) (by intro x hx; go_simp <;> with_reducible rfl) (by simp only [Act.put, List.setIfInBounds_toArray, List.set_cons_zero, List.set_cons_succ] <;> rfl) ?_
      refine Rest.take 4 120 rfl (by kernel_rfl) (by kernel_rfl) (by kernel_rfl) (fun _ _ _ h => h) (by rfl) (by rfl) (by intro x hx; go_simp <;> with_reducible rfl) (by simp only [Act.put, List.setIfInBounds_toArray, List.set_cons_zero, List.set_cons_succ] <;> rfl) ?_
      refine Rest.take 5 121 (v := .pointer (some ⟨bL, oL + k * 19, none⟩)) rfl (by kernel_rfl) (by kernel_rfl) (by kernel_rfl) (fun _ _ _ h => h) (by rfl) (by rfl) (by intro x hx; have h1 := hkI; have h2 := hk0; have h3 := hcapL; go_simp <;> with_reducible rfl) (by simp only [Act.put, List.setIfInBounds_toArray, List.set_cons_zero, List.set_cons_succ] <;> rfl) ?_
      refine Rest.take 6 122 rfl (by kernel_rfl) (by kernel_rfl) (by kernel_rfl) (fun _ _ _ h => h) (by rfl) (by rfl) (by intro x hx; go_simp <;> with_reducible rfl) (by simp only [Act.put, List.setIfInBounds_toArray, List.set_cons_zero, List.set_cons_succ] <;> rfl) ?_
      refine Rest.take 7 123 rfl (by kernel_rfl) (by kernel_rfl) (by kernel_rfl) (fun _ _ _ h => h) (by rfl) (by rfl) (by intro x hx; have hc := CG.out x (later HB hs hx); go_simp <;> with_reducible rfl) (by simp only [Act.put, List.setIfInBounds_toArray, List.set_cons_zero, List.set_cons_succ] <;> rfl) ?_
      refine Rest.take 8 124 rfl (by kernel_rfl) (by kernel_rfl) (by kernel_rfl) (fun _ _ _ h => h) (by rfl) (by rfl) (by intro x hx; go_simp <;> with_reducible rfl) (by simp only [Act.put, List.setIfInBounds_toArray, List.set_cons_zero, List.set_cons_succ] <;> rfl) ?_
      refine Rest.take 9 125 rfl (by kernel_rfl) (by kernel_rfl) (by kernel_rfl) (fun _ _ _ h => h) (by rfl) (by rfl) (by intro x hx; have hc := CP.out x (later HB hs hx); go_simp <;> with_reducible rfl) (by simp only [Act.put, List.setIfInBounds_toArray, List.set_cons_zero, List.set_cons_succ] <;> rfl) ?_
      refine Rest.take 10 126 (v := .bool (decide (G < y.l.gen))) rfl (by kernel_rfl) (by kernel_rfl) (by kernel_rfl) (fun _ _ _ h => h) (by rfl) (by rfl) (by intro x hx; go_simp <;> with_reducible rfl) (by simp only [Act.put, List.setIfInBounds_toArray, List.set_cons_zero, List.set_cons_succ] <;> rfl) ?_
      refine Rest.take 11 127 (v := .bool (decide (G < y.l.gen))) rfl (by kernel_rfl) (by kernel_rfl) (by kernel_rfl) (fun _ _ _ h => h) (by rfl) (by rfl) (by intro x hx; go_simp <;> with_reducible rfl) (by simp only [Act.put, List.setIfInBounds_toArray, List.set_cons_zero, List.set_cons_succ] <;> rfl) ?_
      refine Rest.done (by kernel_rfl) ?_
      refine hKK.out _ _ ?_
      refine wp_cond_split rfl (fun ht => ?_) (fun hf => ?_)
      · have hset : stepAt xs x.l zs j = zs.set d (j : Int) := stepAt_set HLJ.out HQL.out HD.out (.inr (by rw [HGK.out]; simpa using ht))
        have HSET := Lib.hid hset
        clear hset ht
        refine Lin.begin ?_
        refine Lin.take 128 rfl rfl (by go_simp <;> with_reducible rfl) (by simp only [Act.put, List.setIfInBounds_toArray, List.set_cons_zero, List.set_cons_succ] <;> rfl) ?_
        refine Lin.take 129 rfl rfl (by go_simp <;> with_reducible rfl) (by simp only [Act.put, List.setIfInBounds_toArray, List.set_cons_zero, List.set_cons_succ] <;> rfl) ?_
        refine Lin.take 130 rfl rfl (by have hc := below_cell HB.out (World.block_lt_of_cell? z3 _ KDK.out) KDK.out; go_simp <;> with_reducible rfl) (by simp only [Act.put, List.setIfInBounds_toArray, List.set_cons_zero, List.set_cons_succ] <;> rfl) ?_
        refine Lin.take 131 rfl rfl (by go_simp <;> with_reducible rfl) (by simp only [Act.put, List.setIfInBounds_toArray, List.set_cons_zero, List.set_cons_succ] <;> rfl) ?_
        refine Lin.take 132 (v := .pointer (some ⟨gA, d, none⟩)) rfl rfl (by have h1 := hdI; have h2 := hd0; go_simp <;> (first | with_reducible rfl | simp)) (by simp only [Act.put, List.setIfInBounds_toArray, List.set_cons_zero, List.set_cons_succ] <;> rfl) ?_
        have HO5 := Lib.hid (owns_belowI HO3.out HB.out)
        refine Lin.store (w' := z3.drew.setCell ⟨gA, d, none⟩ (.int .i64 (j : Int))) rfl (by have hc := below_cell HB.out (World.block_lt_of_cell? z3 _ HZC.out) HZC.out; have hf := HO5.out.frozenAt d; go_simp <;> (first | exact ⟨rfl, rfl⟩ | rfl)) (by simp only [Act.put] <;> rfl) ?_
        intro z9 hz9
        have HO9 : Hid (z9.ownsRow gA 3 1 (.slice (some ⟨gA, 0, none⟩) m m) m (zc (stepAt xs x.l zs j))) := by
          have h1 := (HO5.out.stored d (.int .i64 (j : Int))).1
          rw [zc_set, ← HSET.out] at h1
          rw [hz9]
          exact Lib.hid h1
        have HB9 : Hid (Below w4.heap.size w4 z9) := by rw [hz9]; exact Lib.hid ((HBW3.out.trans (HB.out.mono HBW3.out.size)).setCell (p := ⟨gA, d, none⟩) (by rw [HGA.out]; exact Nat.le_refl _) _)
        clear hz9
        refine Lin.end ?_
        simp only [Exit.inBlock, Exit.then]
        refine hKC _ _ ?_
        go_wp2
        go_roundw
        case rel => exact ⟨i + 1, by go_num, by omega, by rw [HSTEP.out]; exact HO9, HB9⟩
        case measure => simp [intOf]; omega
      · have hset : stepAt xs x.l zs j = zs := stepAt_keep HLJ.out HQL.out HD.out (fun h => by
          rcases h with h | h
          · exact HK0.out h
          · rw [HGK.out] at h
            simp at hf
            omega)
        have HSET := Lib.hid hset
        clear hset hf
        refine wp_skip ?_
        refine hKC _ _ ?_
        go_wp2
        go_roundw
        case rel => exact ⟨i + 1, by go_num, by omega, by rw [HSTEP.out, HSET.out]; exact Lib.hid (owns_belowI HO3.out HB.out), Lib.hid (HBW3.out.trans (HB.out.mono HBW3.out.size))⟩
        case measure => simp [intOf]; omega
  have hiI : ¬ (i : Int) < n1 := by omega
  obtain rfl : n1 = i := by omega
  rw [List.take_of_length_le (by have := HNC.out; omega)] at HO
  go_wp2
  refine HKL.out _ _ ?_
  clear HKL
  obtain ⟨w7, hw7⟩ : ∃ w7, w7 = wr := ⟨_, rfl⟩
  subst hw7
  have HB7 := HBW
  have hs7 := HBW.out.size
  obtain ⟨zs, hzs⟩ : ∃ zs, zs = atL xs x.l (candL xs rd) := ⟨_, rfl⟩
  rw [← hzs] at HO
  have hzl : zs.length = m := by have := HO.out.1; rw [zc_length] at this; omega
  have HZL := Lib.hid hzl
  have HCT := Lib.hid (count_any zs _ m m w7 (Sl.of_owns HO.out (zc_one _)).2 (by omega))
  have hE : electL xs rd = if 3 < negs zs then (lbz, [], 12) else (x.l, zs, 0) := by
    unfold electL
    rw [if_neg (by have := HLX.out; have := HLR.out; omega), if_neg HCN.out, ← HBE.out, HLB.out, ← hzs]
  have HEL := Lib.hid hE
  obtain ⟨ng, hng⟩ : ∃ ng, ng = negs zs := ⟨_, rfl⟩
  rw [← hng] at HCT HEL
  clear hzs hzl hE hng hin hiI hi HBW HO6
  refine wp_seq_k (fun K1 hK1 => ?_)
  refine wp_seq_k (fun K hK => ?_)
  refine Lin.begin ?_
  refine Lin.take 134 rfl rfl (by go_simp <;> with_reducible rfl) (by simp only [Act.put, List.setIfInBounds_toArray, List.set_cons_zero, List.set_cons_succ] <;> rfl) ?_
  refine Lin.enter 135 rfl rfl (by go_simp <;> (first | exact ⟨rfl, rfl⟩ | rfl)) HCT.out (by simp only [Act.put, List.setIfInBounds_toArray, List.set_cons_zero, List.set_cons_succ] <;> rfl) ?_
  intro w8 hb8
  have HB8' := Lib.hid hb8
  have HB8 := Lib.hid (HB7.out.trans (hb8.mono hs7))
  have hs8 := HB8.out.size
  clear hb8
  refine Lin.bool 136 rfl rfl (by go_simp <;> with_reducible rfl) ?_
  intro B136 hB136 aa ha; simp only [Act.put, List.setIfInBounds_toArray, List.set_cons_zero, List.set_cons_succ] at ha; subst ha
  refine Lin.done (hK _ _ ?_)
  clear hK K
  have HR8 : Hid (w8.heap[g]? = some (.cells (lbz.arrv none 0 0) 32 (0, 0))) := by rw [← HR1.out]; exact Lib.hid ((HB4.out.trans (HB8.out.mono HB4.out.size)).block g (by omega))
  refine wp_cond_split rfl (fun ht => ?_) (fun hf => ?_)
  · have hE : electL xs rd = (lbz, [], 12) := by rw [HEL.out, if_pos (by rw [hB136] at ht; simp at ht; omega)]
    clear ht hB136
    refine wp_seq_k (fun KF hKF => ?_)
    refine Lin.begin ?_
    refine Lin.take 137 (v := .agg (lbz.arrv none 0 0)) rfl rfl (by go_simp <;> rfl) (by simp only [Act.put, List.setIfInBounds_toArray, List.set_cons_zero, List.set_cons_succ] <;> rfl) ?_
    refine W_store_row 32 g (lbz.arrv none 0 0) 32 (lbz.arrv none 0 0) rfl rfl HR8.out (by kernel_rfl) rfl (arrv_one _ _ _ _) ?_
    simp only [Act.put]
    refine Lin.take 5 rfl rfl (by go_simp <;> with_reducible rfl) (by simp only [Act.put, List.setIfInBounds_toArray, List.set_cons_zero, List.set_cons_succ] <;> rfl) ?_
    refine Lin.take 6 rfl rfl (by go_simp <;> with_reducible rfl) (by simp only [Act.put, List.setIfInBounds_toArray, List.set_cons_zero, List.set_cons_succ] <;> rfl) ?_
    refine Lin.done (hKF _ _ ?_)
    refine wp_ret ?_
    simp only [Exit.then]
    refine bodyPost_ret (results_row2 rfl _ _ g 32 (lbz.arrv none 0 0) _ rfl (setRow_at HR8.out) Try.underlying32 rfl (by kernel_rfl)) rfl ?_
    rw [hE]
    exact ⟨none, 0, 0, none, 0, 0, rfl, Sl.nilv _ _, Sl.nilv _ _, below_setRow (HB1.out.trans ((HB4.out.trans (HB8.out.mono HB4.out.size)).mono HB1.out.size)) (by have := HG.out; omega) _⟩
  have hE : electL xs rd = (x.l, zs, 0) := by rw [HEL.out, if_neg (by rw [hB136] at hf; simp at hf; omega)]
  have HE := Lib.hid hE
  clear hf hB136 hE HEL
  refine wp_skip ?_
  refine hK1 _ _ ?_
  clear hK1 K1
  have HQ8 : Hid (w8.heap[q]? = some (.cells x.arr 32 (0, 0))) := by rw [← HR4.out]; exact Lib.hid (HB8.out.block q (by omega))
  have KDD : Hid (w8.cell? ⟨q, 15, none⟩ = some (.slice x.ad x.nd x.c)) := Lib.hid (LbAt.of HQ8.out).k15
  have HCL := Lib.hid (cloneT_any x.ad x.nd x.c x.l.dead w8 (((HDX.out.below HB4.out)).below HB8.out) HOX.out.short)
  refine wp_seq_k (fun K hK => ?_)
  refine Lin.begin ?_
  refine Lin.take 138 rfl rfl (by go_simp <;> with_reducible rfl) (by simp only [Act.put, List.setIfInBounds_toArray, List.set_cons_zero, List.set_cons_succ] <;> rfl) ?_
  refine Lin.take 139 rfl rfl (by have hc := KDD.out; go_simp <;> with_reducible rfl) (by simp only [Act.put, List.setIfInBounds_toArray, List.set_cons_zero, List.set_cons_succ] <;> rfl) ?_
  refine Lin.enterS 140 rfl rfl (by go_simp <;> (first | exact ⟨rfl, rfl⟩ | rfl)) HCL.out ?_
  rintro a9 n9 c9 w9 ⟨ho9, hb9⟩ aa ha; simp only [Act.put, List.setIfInBounds_toArray, List.set_cons_zero, List.set_cons_succ] at ha; subst ha
  have HO9 := Lib.hid ho9
  have HB9 := Lib.hid hb9
  have hs9 := hb9.size
  have HQ9 : Hid (w9.heap[q]? = some (.cells x.arr 32 (0, 0))) := by rw [← HQ8.out]; exact Lib.hid (hb9.block q (by omega))
  have HR9 : Hid (w9.heap[g]? = some (.cells (lbz.arrv none 0 0) 32 (0, 0))) := by rw [← HR8.out]; exact Lib.hid (hb9.block g (by have := HQ.out; omega))
  clear ho9 hb9
  refine Lin.take 141 rfl rfl (by go_simp <;> with_reducible rfl) (by simp only [Act.put, List.setIfInBounds_toArray, List.set_cons_zero, List.set_cons_succ] <;> rfl) ?_
  refine Lin.store (w' := w9.setCell ⟨q, 15, none⟩ (.slice a9 n9 c9)) rfl (by have hc := (LbAt.of HQ9.out).k15; have hf := frozen_of_row w9 q 15 _ _ HQ9.out; go_simp <;> (first | exact ⟨rfl, rfl⟩ | rfl)) (by simp only [Act.put] <;> rfl) ?_
  intro w10 hw10
  have HQ10 : Hid (w10.heap[q]? = some (.cells (x.l.arrv a9 n9 c9) 32 (0, 0))) := by
    rw [hw10, heap_setCell_same w9 q 15 _ _ _ HQ9.out]
    exact Lib.hid rfl
  have HR10 : Hid (w10.heap[g]? = some (.cells (lbz.arrv none 0 0) 32 (0, 0))) := by
    rw [← HR9.out, hw10]
    exact Lib.hid (Below.heap_setCell _ _ _ _ (fun e => by have h1 := hs4; have h2 := HB3.out.size; have h3 := HQ.out; simp at e; omega))
  refine Lin.done (hK _ _ ?_)
  clear hK K
  refine wp_seq_k (fun K hK => ?_)
  refine Lin.begin ?_
  refine Lin.mid 142 true 32 _ q 0 (x.l.arrv a9 n9 c9).toList _ (by kernel_rfl) rfl rfl (fun _ => rfl) (LbAt.of HQ10.out).range Try.underlying32 rfl (by kernel_rfl) (by simp only [Act.put, List.setIfInBounds_toArray, List.set_cons_zero, List.set_cons_succ] <;> rfl) ?_
  refine Lin.take 143 rfl rfl (by go_simp <;> with_reducible rfl) (by simp only [Act.put, List.setIfInBounds_toArray, List.set_cons_zero, List.set_cons_succ] <;> rfl) ?_
  subst hw10
  refine W_store_row 32 g (x.l.arrv a9 n9 c9) 32 (lbz.arrv none 0 0) rfl rfl HR10.out (by kernel_rfl) rfl (arrv_one _ _ _ _) ?_
  simp only [Act.put]
  refine Lin.take 5 rfl rfl (by go_simp <;> with_reducible rfl) (by simp only [Act.put, List.setIfInBounds_toArray, List.set_cons_zero, List.set_cons_succ] <;> rfl) ?_
  refine Lin.take 6 rfl rfl (by go_simp <;> with_reducible rfl) (by simp only [Act.put, List.setIfInBounds_toArray, List.set_cons_zero, List.set_cons_succ] <;> rfl) ?_
  refine Lin.done (hK _ _ ?_)
  refine wp_ret ?_
  (try simp only [Exit.then])
  refine bodyPost_ret (results_row2 rfl _ _ g 32 (x.l.arrv a9 n9 c9) _ rfl (setRow_at HR10.out) Try.underlying32 rfl (by kernel_rfl)) rfl ?_
  rw [HE.out]
  have hgq : g ≠ q := by have := hs4; have := HB3.out.size; have := HQ.out; omega
  refine ⟨a9, n9, c9, _, _, _, rfl, ?_, ?_, ?_⟩
  · refine (Sl.of_owns (World.ownsRow.kept (World.ownsRow.kept HO9.out (grownBy_setCell w9 q 15 _) (.inr ?_)) (grownBy_setRow _ g _) (.inr ?_)) (bb_one _)).2
    · intro h; have := HO9.out.lt q h; omega
    · intro h; have := HO9.out.lt g h; have h3 := HQ.out; omega
  · refine (Sl.of_owns (World.ownsRow.kept (World.ownsRow.kept (owns_belowI (owns_belowI HO.out HB8'.out) HB9.out) (grownBy_setCell w9 q 15 _) (.inr ?_)) (grownBy_setRow _ g _) (.inr ?_)) (zc_one _)).2
    · intro h; simp [Value.ownBlock] at h; have := HGA.out; have h3 := HQ.out; omega
    · intro h; simp [Value.ownBlock] at h; have := HGA.out; have h3 := HQ.out; omega
  · refine below_setRow ((Below.setCell (p := ⟨q, 15, none⟩) ?_ ?_ _)) (by have := HG.out; omega) _
    · exact HB1.out.trans ((HB4.out.trans ((HB8.out.trans (HB9.out.mono HB8.out.size)).mono HB4.out.size)).mono HB1.out.size)
    · have := HB1.out.size; have := HB3.out.size; have := HQ.out; show w.heap.size ≤ q; omega
end Go.Proofs.Ytgpfjinkmagelaa
