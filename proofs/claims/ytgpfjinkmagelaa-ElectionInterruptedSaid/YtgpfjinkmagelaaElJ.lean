/- Elections: the reference's Elect. (Printed by el10.py.) -/
import Derived.Test.YtgpfjinkmagelaaElI
import Derived.Test.YtgpfjinkmagelaaMay
set_option linter.unusedVariables false
set_option linter.unusedSimpArgs false
namespace Go.Proofs.Ytgpfjinkmagelaa
open Go Go.RowKit Go.Lib

/-- The places of the first d disks, then zeros. -/
def refP (xs : List LL) (e : Lb) (l : List Nat) (m d : Nat) : List Int := (List.range d).map (fun (k : Nat) => atD xs e l (k : Int)) ++ List.replicate (m - d) 0
theorem refP_length {xs : List LL} {e : Lb} {l : List Nat} {m d : Nat} (h : d ≤ m) : (refP xs e l m d).length = m := by
  unfold refP
  simp
  omega
theorem refP_get {xs : List LL} {e : Lb} {l : List Nat} {m d : Nat} (h : d < m) : (zc (refP xs e l m d))[d]? = some (.int .i64 0) := by
  unfold zc refP
  rw [List.getElem?_map, List.getElem?_append_right (by simp), List.getElem?_replicate]
  simp
  omega
theorem refS_get {xs : List LL} {e : Lb} {l : List Nat} {m d : Nat} {v : Int} (h : d < m) : (zc ((refP xs e l m d).set d v))[d]? = some (.int .i64 v) := by
  unfold zc
  rw [List.getElem?_map, List.getElem?_set_self (by rw [refP_length (by omega)]; exact h)]
  rfl
theorem refP_next {xs : List LL} {e : Lb} {l : List Nat} {m d : Nat} (h : d < m) : (refP xs e l m d).set d (atD xs e l (d : Int)) = refP xs e l m (d + 1) := by
  unfold refP
  rw [List.set_append_right _ _ (by simp)]
  obtain ⟨k, hk⟩ : ∃ k, m - d = k + 1 := ⟨m - d - 1, by omega⟩
  rw [hk, show m - (d + 1) = k by omega, List.length_map, List.length_range, Nat.sub_self, List.replicate_succ, List.set_cons_zero, List.range_succ, List.map_append, List.append_assoc]
  rfl
theorem refP_full {xs : List LL} {e : Lb} {l : List Nat} {m d : Nat} (h : d < m) : (refP xs e l m m).getD d 0 = atD xs e l (d : Int) := by
  unfold refP
  rw [List.getD_eq_getElem?_getD, Nat.sub_self, List.replicate_zero, List.append_nil, List.getElem?_map, List.getElem?_range h]
  rfl
/-- What a search from the end has found. -/
def fromK (n k : Nat) (p : Nat → Bool) : Option Nat := (List.range' k (n - k)).find? p
theorem fromK_none (n : Nat) (p : Nat → Bool) : fromK n n p = none := by simp [fromK]
theorem fromK_step {n j : Nat} (h : j < n) (p : Nat → Bool) : fromK n j p = if p j then some j else fromK n (j + 1) p := by
  unfold fromK
  obtain ⟨k, hk⟩ : ∃ k, n - j = k + 1 := ⟨n - j - 1, by omega⟩
  rw [hk, List.range'_succ, show n - (j + 1) = k by omega]
  cases hp : p j <;> simp [hp]
theorem fromK_all (xs : List LL) (rd : List Bool) (n : Nat) (p : Nat → Bool) : fromK n 0 (fun i => okI xs rd i && p i) = (candP xs rd n).find? p := by
  unfold fromK candP
  rw [Nat.sub_zero, ← List.range_eq_range', List.find?_filter]
  congr 1
  funext i
  cases okI xs rd i <;> cases p i <;> rfl
/-- The best so far, or none. -/
def BestI (xs : List LL) (l p : List Nat) (z : Int) : Prop := (z = -1 ∧ p = []) ∨ ∃ b : Nat, z = (b : Int) ∧ Best xs l p b

set_option maxRecDepth 100000 in
set_option maxHeartbeats 6400000 in
theorem refElect_any (xs : List LL) (a : Option Addr) (n c : Nat) (rd : List Bool) (ar : Option Addr) (nr cr : Nat) (w : World) (hX : Lbs w a n c xs) (hR : Sl w 1 ar nr cr (bb rd)) (hok : ∀ x ∈ xs, x.l.ok) (hn6 : n ≤ 500) :
    Calls Try.prog 12 #[.slice a n c, .slice ar nr cr] w fun e w' => ElRes xs rd e w w' := by
  have hlen := hX.len
  have hrl : rd.length = nr := by have := hR.len; rw [bb_length] at this; omega
  have hcapL := hX.sl.cap
  have hcapR := hR.cap
  have HLX := Lib.hid hlen
  have HLR := Lib.hid hrl
  have HOK := Lib.hid hok
  have HX0 := Lib.hid hX
  clear hlen hrl hok
  unfold ElRes
  go_enter Try.func12, Try.ntmps12
  refine wp_seq_k (fun K0 hK0 => ?_)
  refine Lin.begin ?_
  refine Lin.takeW 4 rfl rfl (by go_simp; exact ⟨rfl, rfl⟩) (by simp only [Act.put, List.setIfInBounds_toArray, List.set_cons_zero, List.set_cons_succ] <;> rfl) ?_
  intro w1 hw1
  obtain ⟨g, hg⟩ : ∃ g, g = w.heap.size := ⟨_, rfl⟩
  rw [← hg]
  have HR1 : Hid (w1.heap[g]? = some (.cells (lbz.arrv none 0 0) 32 (0, 0))) := by rw [hw1, hg]; exact Lib.hid (heap_alloc_new _ _)
  have hb1 : Below w.heap.size w w1 := by rw [hw1]; exact (Below.refl _ _).alloc (Nat.le_refl _) _
  have hsz1 : w1.heap.size = g + 1 := by rw [hw1, hg]; simp
  have HG := Lib.hid hg
  have HB1 := Lib.hid hb1
  have HX := Lib.hid (hX.below hb1)
  have HRD := Lib.hid (hR.below hb1)
  clear hw1 hg hb1 hX hR
  refine Lin.take 5 rfl rfl (by go_simp <;> with_reducible rfl) (by simp only [Act.put, List.setIfInBounds_toArray, List.set_cons_zero, List.set_cons_succ] <;> rfl) ?_
  refine Lin.take 6 rfl rfl (by go_simp <;> with_reducible rfl) (by simp only [Act.put, List.setIfInBounds_toArray, List.set_cons_zero, List.set_cons_succ] <;> rfl) ?_
  refine Lin.done (hK0 _ _ ?_)
  refine wp_seq_k (fun K1 hK1 => ?_)
  refine wp_seq_k (fun K hK => ?_)
  refine Lin.begin ?_
  refine Lin.take 15 rfl rfl (by go_simp <;> with_reducible rfl) (by simp only [Act.put, List.setIfInBounds_toArray, List.set_cons_zero, List.set_cons_succ] <;> rfl) ?_
  refine Lin.take 16 rfl rfl (by go_simp <;> with_reducible rfl) (by simp only [Act.put, List.setIfInBounds_toArray, List.set_cons_zero, List.set_cons_succ] <;> rfl) ?_
  refine Lin.take 17 rfl rfl (by go_simp <;> with_reducible rfl) (by simp only [Act.put, List.setIfInBounds_toArray, List.set_cons_zero, List.set_cons_succ] <;> rfl) ?_
  refine Lin.take 18 rfl rfl (by go_simp <;> with_reducible rfl) (by simp only [Act.put, List.setIfInBounds_toArray, List.set_cons_zero, List.set_cons_succ] <;> rfl) ?_
  refine Lin.bool 19 rfl rfl (by go_simp <;> with_reducible rfl) ?_
  intro B19 hB19 aa ha; simp only [Act.put, List.setIfInBounds_toArray, List.set_cons_zero, List.set_cons_succ] at ha; subst ha
  refine Lin.done (hK _ _ ?_)
  clear hK0 K0 hK K
  refine wp_cond_split rfl (fun ht => ?_) (fun hf => ?_)
  · have hnm : ¬ xs.length = rd.length := by
      rw [hB19] at ht
      have h1 := HLX.out
      have h2 := HLR.out
      simp at ht
      omega
    have hE : electL xs rd = (lbz, [], 1) := by unfold electL; rw [if_pos hnm]
    clear hnm ht hB19
    refine wp_seq_k (fun KF hKF => ?_)
    refine Lin.begin ?_
    refine Lin.take 20 (v := .agg (lbz.arrv none 0 0)) rfl rfl (by go_simp <;> rfl) (by simp only [Act.put, List.setIfInBounds_toArray, List.set_cons_zero, List.set_cons_succ] <;> rfl) ?_
    refine W_store_row 32 g (lbz.arrv none 0 0) 32 (lbz.arrv none 0 0) rfl rfl HR1.out (by kernel_rfl) rfl (arrv_one _ _ _ _) ?_
    simp only [Act.put]
    refine Lin.take 5 rfl rfl (by go_simp <;> with_reducible rfl) (by simp only [Act.put, List.setIfInBounds_toArray, List.set_cons_zero, List.set_cons_succ] <;> rfl) ?_
    refine Lin.take 6 rfl rfl (by go_simp <;> with_reducible rfl) (by simp only [Act.put, List.setIfInBounds_toArray, List.set_cons_zero, List.set_cons_succ] <;> rfl) ?_
    refine Lin.done (hKF _ _ ?_)
    refine wp_ret ?_
    (try simp only [Exit.then])
    refine bodyPost_ret (results_row2 rfl _ _ g 32 (lbz.arrv none 0 0) _ rfl (setRow_at HR1.out) Try.underlying32 rfl (by kernel_rfl)) rfl ?_
    rw [hE]
    exact ⟨none, 0, 0, none, 0, 0, rfl, Sl.nilv _ _, Sl.nilv _ _, below_setRow HB1.out (by have := HG.out; omega) _⟩
  have hnm : n = nr := by
    rw [hB19] at hf
    simp at hf
    omega
  subst hnm
  clear hf hB19
  refine wp_skip ?_
  refine hK1 _ _ ?_
  clear hK1 K1
  refine wp_seq_k (fun K hK => ?_)
  refine Lin.begin ?_
  refine Lin.take 7 rfl rfl (by go_simp <;> with_reducible rfl) (by simp only [Act.put, List.setIfInBounds_toArray, List.set_cons_zero, List.set_cons_succ] <;> rfl) ?_
  refine Lin.done (hK _ _ ?_)
  clear hK K
  refine wp_seq_k (fun KL hKL => ?_)
  have HKL := Lib.hid hKL
  clear hKL
  go_wp2
  go_loopw [7, 8] (fun bv iv wr => ∃ (i : Nat) (z : Int), iv = .int .i64 (i : Int) ∧ i ≤ n ∧ bv = .int .i64 z ∧ Hid (BestI xs (candL xs rd) (candP xs rd i) z) ∧ Hid (Below w1.heap.size w1 wr)) (fun _ iv _ => n - (intOf iv).toNat)
  case atStart => exact ⟨0, -1, rfl, by omega, rfl, Lib.hid (.inl ⟨rfl, rfl⟩), Lib.hid (Below.refl _ _)⟩
  case round =>
  obtain ⟨i, z, rfl, hin, rfl, HBI, HBW⟩ := hrel
  by_cases hi : i < n
  · have hiI : (i : Int) < n := by omega
    have hiR := hiI
    have hi0 : (0 : Int) ≤ (i : Int) := by omega
    have hil : i < xs.length := by have := HLX.out; omega
    have hir : i < rd.length := by have := HLR.out; omega
    obtain ⟨bL, oL, haL, hbL, r0⟩ := (HX.out.below HBW.out).at hil
    obtain ⟨bR, oR, haR, hcellR⟩ := (HRD.out.below HBW.out).at (k := i) (by rw [bb_length]; exact hir)
    have hcR := hcellR i (by rw [bb_length]; exact hir)
    simp only [bb, List.getElem_map] at hcR
    have hbR := World.block_lt_of_cell? wr _ hcR
    simp only at hbR
    have hdy := (HX.out.below HBW.out).dead _ (List.getElem_mem hil)
    have hcp := candP_succ xs rd i
    have hoki : okI xs rd i = (rd[i] && decide (lab xs i).valid) := by
      unfold okI
      rw [List.getD_eq_getElem?_getD, List.getElem?_eq_getElem hir]
      rfl
    have hlab := lab_lt hil
    rw [hoki, hlab] at hcp
    rw [hlab] at hoki
    have hoy := HOK.out _ (List.getElem_mem hil)
    obtain ⟨y, hye⟩ : ∃ y, y = xs[i] := ⟨_, rfl⟩
    obtain ⟨rb, hrb⟩ : ∃ rb, rb = rd[i] := ⟨_, rfl⟩
    rw [← hye] at r0 hcp hdy hoy hlab hoki
    rw [← hrb] at hcR hcp hoki
    obtain ⟨V, hV⟩ : ∃ V, V = decide y.l.valid := ⟨_, rfl⟩
    rw [← hV] at hcp hoki
    have RI := Lib.hid r0
    have CR : Hid (∀ z, Below wr.heap.size wr z → z.cell? ⟨bR, oR + i, none⟩ = some (.bool rb)) := Lib.hid fun z hz => below_cell hz hbR hcR
    have HCP := Lib.hid hcp
    have HOKI := Lib.hid hoki
    have HDY := Lib.hid hdy
    have HOY := Lib.hid hoy
    have HLAB := Lib.hid hlab
    have HVE := Lib.hid hV
    have HV : Hid (∀ z, Below wr.heap.size wr z → Calls Try.prog 16 #[.agg y.arr.toList.toArray] z fun e w' => e = .returned (.bool V) ∧ Below z.heap.size z w') := by
      rw [hV]
      exact Lib.hid fun z hz => refValid_any y.l y.ad y.nd y.c z (hdy.below hz) hoy
    subst haL haR
    clear hcellR hcR hcp hdy hoy hye hrb hoki r0 hlab hV
    refine wp_seq_k (fun KA hKA => ?_)
    refine wp_seq_k (fun KA2 hKA2 => ?_)
    refine Lin.begin ?_
    refine Lin.take 21 rfl rfl (by go_simp <;> with_reducible rfl) (by simp only [Act.put, List.setIfInBounds_toArray, List.set_cons_zero, List.set_cons_succ] <;> rfl) ?_
    refine Lin.take 22 rfl rfl (by go_simp <;> with_reducible rfl) (by simp only [Act.put, List.setIfInBounds_toArray, List.set_cons_zero, List.set_cons_succ] <;> rfl) ?_
    refine Lin.take 23 rfl rfl (by go_simp <;> with_reducible rfl) (by simp only [Act.put, List.setIfInBounds_toArray, List.set_cons_zero, List.set_cons_succ] <;> rfl) ?_
    refine Lin.take 24 (v := .bool true) rfl rfl (by have h1 := hiI; go_simp <;> with_reducible rfl) (by simp only [Act.put, List.setIfInBounds_toArray, List.set_cons_zero, List.set_cons_succ] <;> rfl) ?_
    refine Lin.done (hKA2 _ _ ?_)
    refine wp_cond_true rfl ?_
    refine wp_skip ?_
    refine hKA _ _ ?_
    clear hKA hKA2 KA KA2
    refine wp_seq_k (fun KC hKC => ?_)
    refine wp_block ?_
    refine wp_seq_k (fun KE hKE => ?_)
    refine wp_seq_k (fun KF hKF => ?_)
    refine Lin.begin ?_
    refine Lin.take 27 rfl rfl (by go_simp <;> with_reducible rfl) (by simp only [Act.put, List.setIfInBounds_toArray, List.set_cons_zero, List.set_cons_succ] <;> rfl) ?_
    refine Lin.take 28 rfl rfl (by go_simp <;> with_reducible rfl) (by simp only [Act.put, List.setIfInBounds_toArray, List.set_cons_zero, List.set_cons_succ] <;> rfl) ?_
    refine Lin.take 29 (v := .pointer (some ⟨bR, oR + i, none⟩)) rfl rfl (by have h1 := hiR; have h2 := hi0; have h3 := hcapR; go_simp <;> with_reducible rfl) (by simp only [Act.put, List.setIfInBounds_toArray, List.set_cons_zero, List.set_cons_succ] <;> rfl) ?_
    refine Lin.take 30 (v := .bool rb) rfl rfl (by have hc := CR.out _ (Below.refl _ _); go_simp <;> with_reducible rfl) (by simp only [Act.put, List.setIfInBounds_toArray, List.set_cons_zero, List.set_cons_succ] <;> rfl) ?_
    refine Lin.take 31 (v := .bool (!rb)) rfl rfl (by go_simp <;> with_reducible rfl) (by simp only [Act.put, List.setIfInBounds_toArray, List.set_cons_zero, List.set_cons_succ] <;> rfl) ?_
    refine Lin.take 32 rfl rfl (by go_simp <;> with_reducible rfl) (by simp only [Act.put, List.setIfInBounds_toArray, List.set_cons_zero, List.set_cons_succ] <;> rfl) ?_
    refine Lin.may 33 (!(!rb)) (by cases rb <;> kernel_rfl) rfl (by intro hc; (try simp only [hc, gv_true]); go_simp <;> with_reducible rfl) (by simp only [Act.put, List.setIfInBounds_toArray, List.set_cons_zero, List.set_cons_succ] <;> rfl) ?_
    refine Lin.may 34 (!(!rb)) (by cases rb <;> kernel_rfl) rfl (by intro hc; (try simp only [hc, gv_true]); go_simp <;> with_reducible rfl) (by simp only [Act.put, List.setIfInBounds_toArray, List.set_cons_zero, List.set_cons_succ] <;> rfl) ?_
    refine Lin.may 35 (!(!rb)) (v := .pointer (some ⟨bL, oL + i * 19, none⟩)) (by cases rb <;> kernel_rfl) rfl (by intro hc; (try simp only [hc, gv_true]); have h1 := hiI; have h2 := hi0; have h3 := hcapL; go_simp <;> with_reducible rfl) (by simp only [Act.put, List.setIfInBounds_toArray, List.set_cons_zero, List.set_cons_succ] <;> rfl) ?_
    refine Lin.mid 36 (!(!rb)) 32 _ bL (oL + i * 19) y.arr.toList _ (by cases rb <;> kernel_rfl) rfl rfl (fun hc => by (try simp only [hc, gv_true]); rfl) RI.out Try.underlying32 rfl (by kernel_rfl) (by simp only [Act.put, List.setIfInBounds_toArray, List.set_cons_zero, List.set_cons_succ] <;> rfl) ?_
    refine Lin.mayEnter 37 (!(!rb)) (v := .bool V) (S := Below wr.heap.size wr) (by cases rb <;> kernel_rfl) rfl (by intro hc; (try simp only [hc, gv_true]); go_simp <;> (first | exact ⟨rfl, rfl⟩ | rfl)) (fun hc => HV.out _ (Below.refl _ _)) (fun _ => Below.refl _ _) (by simp only [Act.put, List.setIfInBounds_toArray, List.set_cons_zero, List.set_cons_succ] <;> rfl) ?_
    intro z3 hb3
    have HB3 := Lib.hid hb3
    have hz3 := hb3.size
    clear hb3
    refine Lin.may 38 (!(!rb)) (v := .bool (!V)) (by cases rb <;> kernel_rfl) rfl (by intro hc; (try simp only [hc, gv_true]); go_simp <;> with_reducible rfl) (by simp only [Act.put, List.setIfInBounds_toArray, List.set_cons_zero, List.set_cons_succ] <;> rfl) ?_
    refine Lin.or 39 32 38 rfl rfl rfl rfl rfl ?_
    intro B39 hB39 aa ha; simp only [Act.put, List.setIfInBounds_toArray, List.set_cons_zero, List.set_cons_succ] at ha; subst ha; replace hB39 := Lib.hid hB39
    refine Lin.done (hKF _ _ ?_)
    clear hKF KF
    refine wp_cond_split rfl (fun ht => ?_) (fun hf => ?_)
    · have hval : ¬ (rb && V) = true := by rw [hB39.out] at ht; revert ht; cases rb <;> cases V <;> simp
      rw [if_neg hval, List.append_nil] at HCP
      clear ht hval hB39
      refine wp_exit ?_
      (try simp only [Exit.inBlock, Exit.then])
      refine hKC _ _ ?_
      go_wp2
      go_roundw
      case rel => exact ⟨i + 1, z, by go_num, by omega, rfl, by rw [HCP.out]; exact HBI, Lib.hid (HBW.out.trans (HB3.out.mono HBW.out.size))⟩
      case measure => simp [intOf]; omega
    have hval : (rb && V) = true := by rw [hB39.out] at hf; revert hf; cases rb <;> cases V <;> simp
    rw [hval, if_pos rfl] at HCP
    clear hf hval hB39
    refine wp_skip ?_
    refine hKE _ _ ?_
    clear hKE KE
    have HBW3 := Lib.hid (HBW.out.trans (HB3.out.mono HBW.out.size))
    refine wp_seq_k (fun KE hKE => ?_)
    refine wp_seq_k (fun KF hKF => ?_)
    have hKK := Lib.hid hKF
    clear hKF
    have HB := Lib.hid (show Below z3.heap.size z3 z3.drew from (Below.refl _ _).drew)
    have hs : z3.heap.size ≤ z3.drew.heap.size := Nat.le_refl _
    rcases HBI.out with ⟨rfl, hnil⟩ | ⟨b, rfl, hbst⟩
    · have hz0 : (-1 : Int) < 0 := by decide
      have HNIL := Lib.hid hnil
      clear hnil
      refine Rest.begin 15 (by kernel_rfl) (by kernel_rfl) ?_
      refine Rest.take 0 40 rfl (by kernel_rfl) (by kernel_rfl) (by kernel_rfl) (fun _ _ _ h => h) (by rfl) (by rfl) (by intro x hx; go_simp <;> with_reducible rfl) (by simp only [Act.put, List.setIfInBounds_toArray, List.set_cons_zero, List.set_cons_succ] <;> rfl) ?_
      refine Rest.take 1 41 (v := .bool true) rfl (by kernel_rfl) (by kernel_rfl) (by kernel_rfl) (fun _ _ _ h => h) (by rfl) (by rfl) (by intro x hx; have h1 := hz0; go_simp <;> with_reducible rfl) (by simp only [Act.put, List.setIfInBounds_toArray, List.set_cons_zero, List.set_cons_succ] <;> rfl) ?_
      refine Rest.take 2 42 rfl (by kernel_rfl) (by kernel_rfl) (by kernel_rfl) (fun _ _ _ h => h) (by rfl) (by rfl) (by intro x hx; go_simp <;> with_reducible rfl) (by simp only [Act.put, List.setIfInBounds_toArray, List.set_cons_zero, List.set_cons_succ] <;> rfl) ?_
      refine Rest.skip 3 43 rfl (by kernel_rfl) (by kernel_rfl) (by kernel_rfl) (fun _ _ _ h => h) (by rfl) (by rfl) (by simp only [Act.put, List.setIfInBounds_toArray, List.set_cons_zero, List.set_cons_succ] <;> rfl) ?_
      refine Rest.skip 4 44 rfl (by kernel_rfl) (by kernel_rfl) (by kernel_rfl) (fun _ _ _ h => h) (by rfl) (by rfl) (by simp only [Act.put, List.setIfInBounds_toArray, List.set_cons_zero, List.set_cons_succ] <;> rfl) ?_
      refine Rest.skip 5 45 rfl (by kernel_rfl) (by kernel_rfl) (by kernel_rfl) (fun _ _ _ h => h) (by rfl) (by rfl) (by simp only [Act.put, List.setIfInBounds_toArray, List.set_cons_zero, List.set_cons_succ] <;> rfl) ?_
      refine Rest.skip 6 46 rfl (by kernel_rfl) (by kernel_rfl) (by kernel_rfl) (fun _ _ _ h => h) (by rfl) (by rfl) (by simp only [Act.put, List.setIfInBounds_toArray, List.set_cons_zero, List.set_cons_succ] <;> rfl) ?_
      refine Rest.skip 7 47 rfl (by kernel_rfl) (by kernel_rfl) (by kernel_rfl) (fun _ _ _ h => h) (by rfl) (by rfl) (by simp only [Act.put, List.setIfInBounds_toArray, List.set_cons_zero, List.set_cons_succ] <;> rfl) ?_
      refine Rest.skip 8 48 rfl (by kernel_rfl) (by kernel_rfl) (by kernel_rfl) (fun _ _ _ h => h) (by rfl) (by rfl) (by simp only [Act.put, List.setIfInBounds_toArray, List.set_cons_zero, List.set_cons_succ] <;> rfl) ?_
      refine Rest.skip 9 49 rfl (by kernel_rfl) (by kernel_rfl) (by kernel_rfl) (fun _ _ _ h => h) (by rfl) (by rfl) (by simp only [Act.put, List.setIfInBounds_toArray, List.set_cons_zero, List.set_cons_succ] <;> rfl) ?_
      refine Rest.skip 10 50 rfl (by kernel_rfl) (by kernel_rfl) (by kernel_rfl) (fun _ _ _ h => h) (by rfl) (by rfl) (by simp only [Act.put, List.setIfInBounds_toArray, List.set_cons_zero, List.set_cons_succ] <;> rfl) ?_
      refine Rest.skip 11 51 rfl (by kernel_rfl) (by kernel_rfl) (by kernel_rfl) (fun _ _ _ h => h) (by rfl) (by rfl) (by simp only [Act.put, List.setIfInBounds_toArray, List.set_cons_zero, List.set_cons_succ] <;> rfl) ?_
      refine Rest.skip 12 52 rfl (by kernel_rfl) (by kernel_rfl) (by kernel_rfl) (fun _ _ _ h => h) (by rfl) (by rfl) (by simp only [Act.put, List.setIfInBounds_toArray, List.set_cons_zero, List.set_cons_succ] <;> rfl) ?_
      refine Rest.skip 13 53 rfl (by kernel_rfl) (by kernel_rfl) (by kernel_rfl) (fun _ _ _ h => h) (by rfl) (by rfl) (by simp only [Act.put, List.setIfInBounds_toArray, List.set_cons_zero, List.set_cons_succ] <;> rfl) ?_
      refine Rest.take 14 54 rfl (by kernel_rfl) (by kernel_rfl) (by kernel_rfl) (fun _ _ _ h => h) (by rfl) (by rfl) (by intro x hx; go_simp <;> with_reducible rfl) (by simp only [Act.put, List.setIfInBounds_toArray, List.set_cons_zero, List.set_cons_succ] <;> rfl) ?_
      refine Rest.done (by kernel_rfl) ?_
      refine hKK.out _ _ ?_
      refine wp_cond_true rfl ?_
      refine wp_seq_k (fun KG hKG => ?_)
      refine Lin.begin ?_
      refine Lin.take 55 rfl rfl (by go_simp <;> with_reducible rfl) (by simp only [Act.put, List.setIfInBounds_toArray, List.set_cons_zero, List.set_cons_succ] <;> rfl) ?_
      refine Lin.take 7 rfl rfl (by go_simp <;> with_reducible rfl) (by simp only [Act.put, List.setIfInBounds_toArray, List.set_cons_zero, List.set_cons_succ] <;> rfl) ?_
      refine Lin.done (hKG _ _ ?_)
      refine wp_exit ?_
      (try simp only [Exit.inBlock, Exit.then])
      refine hKC _ _ ?_
      go_wp2
      go_roundw
      case rel => exact ⟨i + 1, (i : Int), by go_num, by omega, rfl, Lib.hid (.inr ⟨i, rfl, by rw [HCP.out, HNIL.out]; exact Best.one _ _ _⟩), Lib.hid (HBW3.out.trans (HB.out.mono HBW3.out.size))⟩
      case measure => simp [intOf]; omega
    · have hz0 : ¬ (b : Int) < 0 := by omega
      have hb9 : b < i := candP_lt hbst.mem
      have hbl : b < xs.length := by omega
      have hbI : (b : Int) < n := by have := HLX.out; omega
      have hb0 : (0 : Int) ≤ (b : Int) := by omega
      have hstep := hbst.step (k := i) (fun j hj => candP_lt hj)
      rw [← HCP.out] at hstep
      obtain ⟨b3, o3, ha3, hbL3, r3⟩ := (HX.out.below HBW.out).at hbl
      obtain ⟨rfl, rfl⟩ : bL = b3 ∧ oL = o3 := by simpa using ha3
      have hdb := (HX.out.below HBW.out).dead _ (List.getElem_mem hbl)
      have hob := HOK.out _ (List.getElem_mem hbl)
      have hlb := lab_lt hbl
      obtain ⟨yb, hyb⟩ : ∃ yb, yb = xs[b] := ⟨_, rfl⟩
      rw [← hyb] at r3 hdb hob hlb
      obtain ⟨GI, hGI⟩ : ∃ G, G = y.l.gen := ⟨_, rfl⟩
      obtain ⟨GB, hGB⟩ : ∃ G, G = yb.l.gen := ⟨_, rfl⟩
      obtain ⟨BT, hBT⟩ : ∃ B, B = betterR xs (candL xs rd) y.l yb.l := ⟨_, rfl⟩
      have hkey := betterR_key (xs := xs) (l := candL xs rd) (Nat.le_trans (candP_len _ _ _) (by have := HLX.out; omega)) (fun k hk => (valid_dk (candP_ok hk)).1) y.l yb.l
      rw [← hBT] at hkey
      rw [HLAB.out, hlb, ← hGI, ← hGB] at hstep
      have hc1 : wr.cell? ⟨bL, oL + i * 19 + 2, none⟩ = some (.int .u64 GI) := by rw [hGI]; exact RI.out 2 _ rfl
      have hc2 : wr.cell? ⟨bL, oL + b * 19 + 2, none⟩ = some (.int .u64 GB) := by rw [hGB]; exact r3 2 _ rfl
      have CGI : Hid (∀ x, Below z3.heap.size z3 x → x.cell? ⟨bL, oL + i * 19 + 2, none⟩ = some (.int .u64 GI)) := Lib.hid fun x hx => below_cell (HB3.out.trans (hx.mono hz3)) hbL hc1
      have CGB : Hid (∀ x, Below z3.heap.size z3 x → x.cell? ⟨bL, oL + b * 19 + 2, none⟩ = some (.int .u64 GB)) := Lib.hid fun x hx => below_cell (HB3.out.trans (hx.mono hz3)) hbL hc2
      have RB := Lib.hid r3
      have HSTEP := Lib.hid hstep
      have HKEY := Lib.hid hkey
      have HBT : Hid (∀ z, Below z3.heap.size z3 z → Calls Try.prog 26 #[.slice (some ⟨bL, oL, none⟩) n c, .slice (some ⟨bR, oR, none⟩) n cr, .agg y.arr.toList.toArray, .agg yb.arr.toList.toArray] z fun e w' => e = .returned (.bool BT) ∧ Below z.heap.size z w') := by
        rw [hBT]
        exact Lib.hid fun z hz => better_any xs _ n c rd _ cr y.l y.ad y.nd y.c yb.l yb.ad yb.nd yb.c z (HX.out.below (HBW3.out.trans (hz.mono HBW3.out.size))) (HRD.out.below (HBW3.out.trans (hz.mono HBW3.out.size))) (HDY.out.below (HB3.out.trans (hz.mono hz3))) (hdb.below (HB3.out.trans (hz.mono hz3))) HOK.out HOY.out.short hob.short hn6
      clear hbst hstep ha3 r3 hdb hob hlb hyb hGI hGB hBT hkey hc1 hc2
      refine Rest.begin 15 (by kernel_rfl) (by kernel_rfl) ?_
      refine Rest.take 0 40 rfl (by kernel_rfl) (by kernel_rfl) (by kernel_rfl) (fun _ _ _ h => h) (by rfl) (by rfl) (by intro x hx; go_simp <;> with_reducible rfl) (by simp only [Act.put, List.setIfInBounds_toArray, List.set_cons_zero, List.set_cons_succ] <;> rfl) ?_
      refine Rest.take 1 41 (v := .bool false) rfl (by kernel_rfl) (by kernel_rfl) (by kernel_rfl) (fun _ _ _ h => h) (by rfl) (by rfl) (by intro x hx; have h1 := hz0; go_simp <;> with_reducible rfl) (by simp only [Act.put, List.setIfInBounds_toArray, List.set_cons_zero, List.set_cons_succ] <;> rfl) ?_
      refine Rest.take 2 42 rfl (by kernel_rfl) (by kernel_rfl) (by kernel_rfl) (fun _ _ _ h => h) (by rfl) (by rfl) (by intro x hx; go_simp <;> with_reducible rfl) (by simp only [Act.put, List.setIfInBounds_toArray, List.set_cons_zero, List.set_cons_succ] <;> rfl) ?_
      refine Rest.take 3 43 rfl (by kernel_rfl) (by kernel_rfl) (by kernel_rfl) (fun _ _ _ h => h) (by rfl) (by rfl) (by intro x hx; go_simp <;> with_reducible rfl) (by simp only [Act.put, List.setIfInBounds_toArray, List.set_cons_zero, List.set_cons_succ] <;> rfl) ?_
      refine Rest.take 4 44 rfl (by kernel_rfl) (by kernel_rfl) (by kernel_rfl) (fun _ _ _ h => h) (by rfl) (by rfl) (by intro x hx; go_simp <;> with_reducible rfl) (by simp only [Act.put, List.setIfInBounds_toArray, List.set_cons_zero, List.set_cons_succ] <;> rfl) ?_
      refine Rest.take 5 45 (v := .pointer (some ⟨bL, oL + i * 19, none⟩)) rfl (by kernel_rfl) (by kernel_rfl) (by kernel_rfl) (fun _ _ _ h => h) (by rfl) (by rfl) (by intro x hx; have h1 := hiI; have h2 := hi0; have h3 := hcapL; go_simp <;> with_reducible rfl) (by simp only [Act.put, List.setIfInBounds_toArray, List.set_cons_zero, List.set_cons_succ] <;> rfl) ?_
      refine Rest.take 6 46 rfl (by kernel_rfl) (by kernel_rfl) (by kernel_rfl) (fun _ _ _ h => h) (by rfl) (by rfl) (by intro x hx; go_simp <;> with_reducible rfl) (by simp only [Act.put, List.setIfInBounds_toArray, List.set_cons_zero, List.set_cons_succ] <;> rfl) ?_
      refine Rest.take 7 47 rfl (by kernel_rfl) (by kernel_rfl) (by kernel_rfl) (fun _ _ _ h => h) (by rfl) (by rfl) (by intro x hx; have hc := CGI.out x (later HB hs hx); go_simp <;> with_reducible rfl) (by simp only [Act.put, List.setIfInBounds_toArray, List.set_cons_zero, List.set_cons_succ] <;> rfl) ?_
      refine Rest.take 8 48 rfl (by kernel_rfl) (by kernel_rfl) (by kernel_rfl) (fun _ _ _ h => h) (by rfl) (by rfl) (by intro x hx; go_simp <;> with_reducible rfl) (by simp only [Act.put, List.setIfInBounds_toArray, List.set_cons_zero, List.set_cons_succ] <;> rfl) ?_
      refine Rest.take 9 49 rfl (by kernel_rfl) (by kernel_rfl) (by kernel_rfl) (fun _ _ _ h => h) (by rfl) (by rfl) (by intro x hx; go_simp <;> with_reducible rfl) (by simp only [Act.put, List.setIfInBounds_toArray, List.set_cons_zero, List.set_cons_succ] <;> rfl) ?_
      refine Rest.take 10 50 (v := .pointer (some ⟨bL, oL + b * 19, none⟩)) rfl (by kernel_rfl) (by kernel_rfl) (by kernel_rfl) (fun _ _ _ h => h) (by rfl) (by rfl) (by intro x hx; have h1 := hbI; have h2 := hb0; have h3 := hcapL; go_simp <;> with_reducible rfl) (by simp only [Act.put, List.setIfInBounds_toArray, List.set_cons_zero, List.set_cons_succ] <;> rfl) ?_
      refine Rest.take 11 51 rfl (by kernel_rfl) (by kernel_rfl) (by kernel_rfl) (fun _ _ _ h => h) (by rfl) (by rfl) (by intro x hx; go_simp <;> with_reducible rfl) (by simp only [Act.put, List.setIfInBounds_toArray, List.set_cons_zero, List.set_cons_succ] <;> rfl) ?_
      refine Rest.take 12 52 rfl (by kernel_rfl) (by kernel_rfl) (by kernel_rfl) (fun _ _ _ h => h) (by rfl) (by rfl) (by intro x hx; have hc := CGB.out x (later HB hs hx); go_simp <;> with_reducible rfl) (by simp only [Act.put, List.setIfInBounds_toArray, List.set_cons_zero, List.set_cons_succ] <;> rfl) ?_
      refine Rest.take 13 53 (v := .bool (decide (GI > GB))) rfl (by kernel_rfl) (by kernel_rfl) (by kernel_rfl) (fun _ _ _ h => h) (by rfl) (by rfl) (by intro x hx; go_simp <;> with_reducible rfl) (by simp only [Act.put, List.setIfInBounds_toArray, List.set_cons_zero, List.set_cons_succ] <;> rfl) ?_
      refine Rest.take 14 54 (v := .bool (decide (GI > GB))) rfl (by kernel_rfl) (by kernel_rfl) (by kernel_rfl) (fun _ _ _ h => h) (by rfl) (by rfl) (by intro x hx; go_simp <;> with_reducible rfl) (by simp only [Act.put, List.setIfInBounds_toArray, List.set_cons_zero, List.set_cons_succ] <;> rfl) ?_
      refine Rest.done (by kernel_rfl) ?_
      refine hKK.out _ _ ?_
      clear hKK
      refine wp_cond_split rfl (fun ht => ?_) (fun hf => ?_)
      · have hgt : GB < GI := by simpa using ht
        have hst := HSTEP.out
        rw [if_pos (.inl hgt)] at hst
        have HST := Lib.hid hst
        clear ht hst
        refine wp_seq_k (fun KG hKG => ?_)
        refine Lin.begin ?_
        refine Lin.take 55 rfl rfl (by go_simp <;> with_reducible rfl) (by simp only [Act.put, List.setIfInBounds_toArray, List.set_cons_zero, List.set_cons_succ] <;> rfl) ?_
        refine Lin.take 7 rfl rfl (by go_simp <;> with_reducible rfl) (by simp only [Act.put, List.setIfInBounds_toArray, List.set_cons_zero, List.set_cons_succ] <;> rfl) ?_
        refine Lin.done (hKG _ _ ?_)
        refine wp_exit ?_
        (try simp only [Exit.inBlock, Exit.then])
        refine hKC _ _ ?_
        go_wp2
        go_roundw
        case rel => exact ⟨i + 1, (i : Int), by go_num, by omega, rfl, Lib.hid (.inr ⟨i, rfl, HST.out⟩), Lib.hid (HBW3.out.trans (HB.out.mono HBW3.out.size))⟩
        case measure => simp [intOf]; omega
      have hgt : ¬ GB < GI := by simpa using hf
      clear hf
      refine wp_skip ?_
      refine hKE _ _ ?_
      clear hKE KE
      obtain ⟨z4, hz4⟩ : ∃ z4, z4 = z3.drew := ⟨_, rfl⟩
      rw [← hz4] at HB hs ⊢
      clear hz4
      refine wp_seq_k (fun KF hKF => ?_)
      have hKK := Lib.hid hKF
      clear hKF
      replace HB := Lib.hid (show Below z3.heap.size z3 z4.drew from HB.out.drew)
      replace hs : z3.heap.size ≤ z4.drew.heap.size := hs
      by_cases hge : GI = GB
      · subst hge
        have hge : GI = GI := rfl
        refine Rest.begin 24 (by kernel_rfl) (by kernel_rfl) ?_
        refine Rest.take 0 56 rfl (by kernel_rfl) (by kernel_rfl) (by kernel_rfl) (fun _ _ _ h => h) (by rfl) (by rfl) (by intro x hx; go_simp <;> with_reducible rfl) (by simp only [Act.put, List.setIfInBounds_toArray, List.set_cons_zero, List.set_cons_succ] <;> rfl) ?_
        refine Rest.take 1 57 rfl (by kernel_rfl) (by kernel_rfl) (by kernel_rfl) (fun _ _ _ h => h) (by rfl) (by rfl) (by intro x hx; go_simp <;> with_reducible rfl) (by simp only [Act.put, List.setIfInBounds_toArray, List.set_cons_zero, List.set_cons_succ] <;> rfl) ?_
        refine Rest.take 2 58 (v := .pointer (some ⟨bL, oL + i * 19, none⟩)) rfl (by kernel_rfl) (by kernel_rfl) (by kernel_rfl) (fun _ _ _ h => h) (by rfl) (by rfl) (by intro x hx; have h1 := hiI; have h2 := hi0; have h3 := hcapL; go_simp <;> with_reducible rfl) (by simp only [Act.put, List.setIfInBounds_toArray, List.set_cons_zero, List.set_cons_succ] <;> rfl) ?_
        refine Rest.take 3 59 rfl (by kernel_rfl) (by kernel_rfl) (by kernel_rfl) (fun _ _ _ h => h) (by rfl) (by rfl) (by intro x hx; go_simp <;> with_reducible rfl) (by simp only [Act.put, List.setIfInBounds_toArray, List.set_cons_zero, List.set_cons_succ] <;> rfl) ?_
        refine Rest.take 4 60 rfl (by kernel_rfl) (by kernel_rfl) (by kernel_rfl) (fun _ _ _ h => h) (by rfl) (by rfl) (by intro x hx; have hc := CGI.out x (later HB hs hx); go_simp <;> with_reducible rfl) (by simp only [Act.put, List.setIfInBounds_toArray, List.set_cons_zero, List.set_cons_succ] <;> rfl) ?_
        refine Rest.take 5 61 rfl (by kernel_rfl) (by kernel_rfl) (by kernel_rfl) (fun _ _ _ h => h) (by rfl) (by rfl) (by intro x hx; go_simp <;> with_reducible rfl) (by simp only [Act.put, List.setIfInBounds_toArray, List.set_cons_zero, List.set_cons_succ] <;> rfl) ?_
        refine Rest.take 6 62 rfl (by kernel_rfl) (by kernel_rfl) (by kernel_rfl) (fun _ _ _ h => h) (by rfl) (by rfl) (by intro x hx; go_simp <;> with_reducible rfl) (by simp only [Act.put, List.setIfInBounds_toArray, List.set_cons_zero, List.set_cons_succ] <;> rfl) ?_
        refine Rest.take 7 63 (v := .pointer (some ⟨bL, oL + b * 19, none⟩)) rfl (by kernel_rfl) (by kernel_rfl) (by kernel_rfl) (fun _ _ _ h => h) (by rfl) (by rfl) (by intro x hx; have h1 := hbI; have h2 := hb0; have h3 := hcapL; go_simp <;> with_reducible rfl) (by simp only [Act.put, List.setIfInBounds_toArray, List.set_cons_zero, List.set_cons_succ] <;> rfl) ?_
        refine Rest.take 8 64 rfl (by kernel_rfl) (by kernel_rfl) (by kernel_rfl) (fun _ _ _ h => h) (by rfl) (by rfl) (by intro x hx; go_simp <;> with_reducible rfl) (by simp only [Act.put, List.setIfInBounds_toArray, List.set_cons_zero, List.set_cons_succ] <;> rfl) ?_
        refine Rest.take 9 65 rfl (by kernel_rfl) (by kernel_rfl) (by kernel_rfl) (fun _ _ _ h => h) (by rfl) (by rfl) (by intro x hx; have hc := CGB.out x (later HB hs hx); go_simp <;> with_reducible rfl) (by simp only [Act.put, List.setIfInBounds_toArray, List.set_cons_zero, List.set_cons_succ] <;> rfl) ?_
        refine Rest.take 10 66 (v := .bool true) rfl (by kernel_rfl) (by kernel_rfl) (by kernel_rfl) (fun _ _ _ h => h) (by rfl) (by rfl) (by intro x hx; have h1 := hge; go_simp <;> with_reducible rfl) (by simp only [Act.put, List.setIfInBounds_toArray, List.set_cons_zero, List.set_cons_succ] <;> rfl) ?_
        refine Rest.take 11 67 rfl (by kernel_rfl) (by kernel_rfl) (by kernel_rfl) (fun _ _ _ h => h) (by rfl) (by rfl) (by intro x hx; go_simp <;> with_reducible rfl) (by simp only [Act.put, List.setIfInBounds_toArray, List.set_cons_zero, List.set_cons_succ] <;> rfl) ?_
        refine Rest.take 12 68 rfl (by kernel_rfl) (by kernel_rfl) (by kernel_rfl) (fun _ _ _ h => h) (by rfl) (by rfl) (by intro x hx; go_simp <;> with_reducible rfl) (by simp only [Act.put, List.setIfInBounds_toArray, List.set_cons_zero, List.set_cons_succ] <;> rfl) ?_
        refine Rest.take 13 69 rfl (by kernel_rfl) (by kernel_rfl) (by kernel_rfl) (fun _ _ _ h => h) (by rfl) (by rfl) (by intro x hx; go_simp <;> with_reducible rfl) (by simp only [Act.put, List.setIfInBounds_toArray, List.set_cons_zero, List.set_cons_succ] <;> rfl) ?_
        refine Rest.take 14 70 rfl (by kernel_rfl) (by kernel_rfl) (by kernel_rfl) (fun _ _ _ h => h) (by rfl) (by rfl) (by intro x hx; go_simp <;> with_reducible rfl) (by simp only [Act.put, List.setIfInBounds_toArray, List.set_cons_zero, List.set_cons_succ] <;> rfl) ?_
        refine Rest.take 15 71 rfl (by kernel_rfl) (by kernel_rfl) (by kernel_rfl) (fun _ _ _ h => h) (by rfl) (by rfl) (by intro x hx; go_simp <;> with_reducible rfl) (by simp only [Act.put, List.setIfInBounds_toArray, List.set_cons_zero, List.set_cons_succ] <;> rfl) ?_
        refine Rest.take 16 72 (v := .pointer (some ⟨bL, oL + i * 19, none⟩)) rfl (by kernel_rfl) (by kernel_rfl) (by kernel_rfl) (fun _ _ _ h => h) (by rfl) (by rfl) (by intro x hx; have h1 := hiI; have h2 := hi0; have h3 := hcapL; go_simp <;> with_reducible rfl) (by simp only [Act.put, List.setIfInBounds_toArray, List.set_cons_zero, List.set_cons_succ] <;> rfl) ?_
        refine Rest.takeMid 17 73 rfl (by kernel_rfl) (by kernel_rfl) (by kernel_rfl) 32 _ bL (oL + i * 19) y.arr.toList _ (fun _ _ _ h => h) (by rfl) rfl rfl (fun x hx => rangeAt_below RI.out (HB3.out.trans ((later HB hs hx).mono hz3)) hbL) Try.underlying32 rfl (by kernel_rfl) rfl (by simp only [Act.put, List.setIfInBounds_toArray, List.set_cons_zero, List.set_cons_succ] <;> rfl) ?_
        refine Rest.take 18 74 rfl (by kernel_rfl) (by kernel_rfl) (by kernel_rfl) (fun _ _ _ h => h) (by rfl) (by rfl) (by intro x hx; go_simp <;> with_reducible rfl) (by simp only [Act.put, List.setIfInBounds_toArray, List.set_cons_zero, List.set_cons_succ] <;> rfl) ?_
        refine Rest.take 19 75 rfl (by kernel_rfl) (by kernel_rfl) (by kernel_rfl) (fun _ _ _ h => h) (by rfl) (by rfl) (by intro x hx; go_simp <;> with_reducible rfl) (by simp only [Act.put, List.setIfInBounds_toArray, List.set_cons_zero, List.set_cons_succ] <;> rfl) ?_
        refine Rest.take 20 76 (v := .pointer (some ⟨bL, oL + b * 19, none⟩)) rfl (by kernel_rfl) (by kernel_rfl) (by kernel_rfl) (fun _ _ _ h => h) (by rfl) (by rfl) (by intro x hx; have h1 := hbI; have h2 := hb0; have h3 := hcapL; go_simp <;> with_reducible rfl) (by simp only [Act.put, List.setIfInBounds_toArray, List.set_cons_zero, List.set_cons_succ] <;> rfl) ?_
        refine Rest.takeMid 21 77 rfl (by kernel_rfl) (by kernel_rfl) (by kernel_rfl) 32 _ bL (oL + b * 19) yb.arr.toList _ (fun _ _ _ h => h) (by rfl) rfl rfl (fun x hx => rangeAt_below RB.out (HB3.out.trans ((later HB hs hx).mono hz3)) hbL) Try.underlying32 rfl (by kernel_rfl) rfl (by simp only [Act.put, List.setIfInBounds_toArray, List.set_cons_zero, List.set_cons_succ] <;> rfl) ?_
        refine Rest.step 22 rfl (by kernel_rfl) (by rfl) (fun K hK => ?_)
        go_simp
        go_at_call 26
        refine (HBT.out _ HB.out).mono ?_
        rintro e wn ⟨rfl, hb⟩
        refine hK.out _ _ hb ?_
        clear hK K
        have HB := Lib.hid (HB.out.trans (hb.mono hs))
        have hs := Nat.le_trans hs hb.size
        clear hb
        refine Rest.take 23 79 rfl (by kernel_rfl) (by kernel_rfl) (by kernel_rfl) (fun _ _ _ h => h) (by rfl) (by rfl) (by intro x hx; go_simp <;> with_reducible rfl) (by simp only [Act.put, List.setIfInBounds_toArray, List.set_cons_zero, List.set_cons_succ] <;> rfl) ?_
        refine Rest.done (by kernel_rfl) ?_
        refine hKK.out _ _ ?_
        cases BT with
        | true =>
          have hst := HSTEP.out
          rw [if_pos (.inr ⟨rfl, HKEY.out.1 rfl⟩)] at hst
          have HST := Lib.hid hst
          clear hst
          refine wp_cond_true rfl ?_
          refine Lin.begin ?_
          refine Lin.take 80 rfl rfl (by go_simp <;> with_reducible rfl) (by simp only [Act.put, List.setIfInBounds_toArray, List.set_cons_zero, List.set_cons_succ] <;> rfl) ?_
          refine Lin.take 7 rfl rfl (by go_simp <;> with_reducible rfl) (by simp only [Act.put, List.setIfInBounds_toArray, List.set_cons_zero, List.set_cons_succ] <;> rfl) ?_
          refine Lin.end ?_
          (try simp only [Exit.inBlock, Exit.then])
          refine hKC _ _ ?_
          go_wp2
          go_roundw
          case rel => exact ⟨i + 1, (i : Int), by go_num, by omega, rfl, Lib.hid (.inr ⟨i, rfl, HST.out⟩), Lib.hid (HBW3.out.trans (HB.out.mono HBW3.out.size))⟩
          case measure => simp [intOf]; omega
        | false =>
          have hst := HSTEP.out
          rw [if_neg (by
            rintro (h | h)
            · omega
            · have := HKEY.out.2 h.2
              simp at this)] at hst
          have HST := Lib.hid hst
          clear hst
          refine wp_cond_false rfl ?_
          refine wp_skip ?_
          (try simp only [Exit.inBlock, Exit.then])
          refine hKC _ _ ?_
          go_wp2
          go_roundw
          case rel => exact ⟨i + 1, (b : Int), by go_num, by omega, rfl, Lib.hid (.inr ⟨b, rfl, HST.out⟩), Lib.hid (HBW3.out.trans (HB.out.mono HBW3.out.size))⟩
          case measure => simp [intOf]; omega
      · have hst := HSTEP.out
        rw [if_neg (by
          rintro (h | h)
          · exact hgt h
          · exact hge h.1)] at hst
        have HST := Lib.hid hst
        clear hst
        refine Rest.begin 24 (by kernel_rfl) (by kernel_rfl) ?_
        refine Rest.take 0 56 rfl (by kernel_rfl) (by kernel_rfl) (by kernel_rfl) (fun _ _ _ h => h) (by rfl) (by rfl) (by intro x hx; go_simp <;> with_reducible rfl) (by simp only [Act.put, List.setIfInBounds_toArray, List.set_cons_zero, List.set_cons_succ] <;> rfl) ?_
        refine Rest.take 1 57 rfl (by kernel_rfl) (by kernel_rfl) (by kernel_rfl) (fun _ _ _ h => h) (by rfl) (by rfl) (by intro x hx; go_simp <;> with_reducible rfl) (by simp only [Act.put, List.setIfInBounds_toArray, List.set_cons_zero, List.set_cons_succ] <;> rfl) ?_
        refine Rest.take 2 58 (v := .pointer (some ⟨bL, oL + i * 19, none⟩)) rfl (by kernel_rfl) (by kernel_rfl) (by kernel_rfl) (fun _ _ _ h => h) (by rfl) (by rfl) (by intro x hx; have h1 := hiI; have h2 := hi0; have h3 := hcapL; go_simp <;> with_reducible rfl) (by simp only [Act.put, List.setIfInBounds_toArray, List.set_cons_zero, List.set_cons_succ] <;> rfl) ?_
        refine Rest.take 3 59 rfl (by kernel_rfl) (by kernel_rfl) (by kernel_rfl) (fun _ _ _ h => h) (by rfl) (by rfl) (by intro x hx; go_simp <;> with_reducible rfl) (by simp only [Act.put, List.setIfInBounds_toArray, List.set_cons_zero, List.set_cons_succ] <;> rfl) ?_
        refine Rest.take 4 60 rfl (by kernel_rfl) (by kernel_rfl) (by kernel_rfl) (fun _ _ _ h => h) (by rfl) (by rfl) (by intro x hx; have hc := CGI.out x (later HB hs hx); go_simp <;> with_reducible rfl) (by simp only [Act.put, List.setIfInBounds_toArray, List.set_cons_zero, List.set_cons_succ] <;> rfl) ?_
        refine Rest.take 5 61 rfl (by kernel_rfl) (by kernel_rfl) (by kernel_rfl) (fun _ _ _ h => h) (by rfl) (by rfl) (by intro x hx; go_simp <;> with_reducible rfl) (by simp only [Act.put, List.setIfInBounds_toArray, List.set_cons_zero, List.set_cons_succ] <;> rfl) ?_
        refine Rest.take 6 62 rfl (by kernel_rfl) (by kernel_rfl) (by kernel_rfl) (fun _ _ _ h => h) (by rfl) (by rfl) (by intro x hx; go_simp <;> with_reducible rfl) (by simp only [Act.put, List.setIfInBounds_toArray, List.set_cons_zero, List.set_cons_succ] <;> rfl) ?_
        refine Rest.take 7 63 (v := .pointer (some ⟨bL, oL + b * 19, none⟩)) rfl (by kernel_rfl) (by kernel_rfl) (by kernel_rfl) (fun _ _ _ h => h) (by rfl) (by rfl) (by intro x hx; have h1 := hbI; have h2 := hb0; have h3 := hcapL; go_simp <;> with_reducible rfl) (by simp only [Act.put, List.setIfInBounds_toArray, List.set_cons_zero, List.set_cons_succ] <;> rfl) ?_
        refine Rest.take 8 64 rfl (by kernel_rfl) (by kernel_rfl) (by kernel_rfl) (fun _ _ _ h => h) (by rfl) (by rfl) (by intro x hx; go_simp <;> with_reducible rfl) (by simp only [Act.put, List.setIfInBounds_toArray, List.set_cons_zero, List.set_cons_succ] <;> rfl) ?_
        refine Rest.take 9 65 rfl (by kernel_rfl) (by kernel_rfl) (by kernel_rfl) (fun _ _ _ h => h) (by rfl) (by rfl) (by intro x hx; have hc := CGB.out x (later HB hs hx); go_simp <;> with_reducible rfl) (by simp only [Act.put, List.setIfInBounds_toArray, List.set_cons_zero, List.set_cons_succ] <;> rfl) ?_
        refine Rest.take 10 66 (v := .bool false) rfl (by kernel_rfl) (by kernel_rfl) (by kernel_rfl) (fun _ _ _ h => h) (by rfl) (by rfl) (by intro x hx; have h1 := hge; go_simp <;> with_reducible rfl) (by simp only [Act.put, List.setIfInBounds_toArray, List.set_cons_zero, List.set_cons_succ] <;> rfl) ?_
        refine Rest.take 11 67 rfl (by kernel_rfl) (by kernel_rfl) (by kernel_rfl) (fun _ _ _ h => h) (by rfl) (by rfl) (by intro x hx; go_simp <;> with_reducible rfl) (by simp only [Act.put, List.setIfInBounds_toArray, List.set_cons_zero, List.set_cons_succ] <;> rfl) ?_
        refine Rest.skip 12 68 rfl (by kernel_rfl) (by kernel_rfl) (by kernel_rfl) (fun _ _ _ h => h) (by rfl) (by rfl) (by simp only [Act.put, List.setIfInBounds_toArray, List.set_cons_zero, List.set_cons_succ] <;> rfl) ?_
        refine Rest.skip 13 69 rfl (by kernel_rfl) (by kernel_rfl) (by kernel_rfl) (fun _ _ _ h => h) (by rfl) (by rfl) (by simp only [Act.put, List.setIfInBounds_toArray, List.set_cons_zero, List.set_cons_succ] <;> rfl) ?_
        refine Rest.skip 14 70 rfl (by kernel_rfl) (by kernel_rfl) (by kernel_rfl) (fun _ _ _ h => h) (by rfl) (by rfl) (by simp only [Act.put, List.setIfInBounds_toArray, List.set_cons_zero, List.set_cons_succ] <;> rfl) ?_
        refine Rest.skip 15 71 rfl (by kernel_rfl) (by kernel_rfl) (by kernel_rfl) (fun _ _ _ h => h) (by rfl) (by rfl) (by simp only [Act.put, List.setIfInBounds_toArray, List.set_cons_zero, List.set_cons_succ] <;> rfl) ?_
        refine Rest.skip 16 72 rfl (by kernel_rfl) (by kernel_rfl) (by kernel_rfl) (fun _ _ _ h => h) (by rfl) (by rfl) (by simp only [Act.put, List.setIfInBounds_toArray, List.set_cons_zero, List.set_cons_succ] <;> rfl) ?_
        refine Rest.skip 17 73 rfl (by kernel_rfl) (by kernel_rfl) (by kernel_rfl) (fun _ _ _ h => h) (by rfl) (by rfl) (by simp only [Act.put, List.setIfInBounds_toArray, List.set_cons_zero, List.set_cons_succ] <;> rfl) ?_
        refine Rest.skip 18 74 rfl (by kernel_rfl) (by kernel_rfl) (by kernel_rfl) (fun _ _ _ h => h) (by rfl) (by rfl) (by simp only [Act.put, List.setIfInBounds_toArray, List.set_cons_zero, List.set_cons_succ] <;> rfl) ?_
        refine Rest.skip 19 75 rfl (by kernel_rfl) (by kernel_rfl) (by kernel_rfl) (fun _ _ _ h => h) (by rfl) (by rfl) (by simp only [Act.put, List.setIfInBounds_toArray, List.set_cons_zero, List.set_cons_succ] <;> rfl) ?_
        refine Rest.skip 20 76 rfl (by kernel_rfl) (by kernel_rfl) (by kernel_rfl) (fun _ _ _ h => h) (by rfl) (by rfl) (by simp only [Act.put, List.setIfInBounds_toArray, List.set_cons_zero, List.set_cons_succ] <;> rfl) ?_
        refine Rest.skip 21 77 rfl (by kernel_rfl) (by kernel_rfl) (by kernel_rfl) (fun _ _ _ h => h) (by rfl) (by rfl) (by simp only [Act.put, List.setIfInBounds_toArray, List.set_cons_zero, List.set_cons_succ] <;> rfl) ?_
        refine Rest.skip 22 78 rfl (by kernel_rfl) (by kernel_rfl) (by kernel_rfl) (fun _ _ _ h => h) (by rfl) (by rfl) (by simp only [Act.put, List.setIfInBounds_toArray, List.set_cons_zero, List.set_cons_succ] <;> rfl) ?_
        refine Rest.take 23 79 rfl (by kernel_rfl) (by kernel_rfl) (by kernel_rfl) (fun _ _ _ h => h) (by rfl) (by rfl) (by intro x hx; go_simp <;> with_reducible rfl) (by simp only [Act.put, List.setIfInBounds_toArray, List.set_cons_zero, List.set_cons_succ] <;> rfl) ?_
        refine Rest.done (by kernel_rfl) ?_
        refine hKK.out _ _ ?_
        refine wp_cond_false rfl ?_
        refine wp_skip ?_
        (try simp only [Exit.inBlock, Exit.then])
        refine hKC _ _ ?_
        go_wp2
        go_roundw
        case rel => exact ⟨i + 1, (b : Int), by go_num, by omega, rfl, Lib.hid (.inr ⟨b, rfl, HST.out⟩), Lib.hid (HBW3.out.trans (HB.out.mono HBW3.out.size))⟩
        case measure => simp [intOf]; omega
  have hiI : ¬ (i : Int) < n := by omega
  obtain rfl : n = i := by omega
  go_wp2
  refine HKL.out _ _ ?_
  clear HKL
  obtain ⟨w3, hw3⟩ : ∃ w3, w3 = wr := ⟨_, rfl⟩
  subst hw3
  have HB3 := HBW
  have hs3 := HBW.out.size
  have hcl : candP xs rd n = candL xs rd := by rw [candL_P, HLX.out]
  rw [hcl] at HBI
  clear hcl hin hiI hi HBW
  refine wp_seq_k (fun K1 hK1 => ?_)
  refine wp_seq_k (fun KN hKN => ?_)
  rcases HBI.out with ⟨rfl, hnil⟩ | ⟨b, rfl, hbst⟩
  · have hz0 : (-1 : Int) < 0 := by decide
    have hE : electL xs rd = (lbz, [], 9) := by
      unfold electL
      rw [if_neg (by have := HLX.out; have := HLR.out; omega), if_pos hnil]
    have HR2 : Hid (w3.heap[g]? = some (.cells (lbz.arrv none 0 0) 32 (0, 0))) := by rw [← HR1.out]; exact Lib.hid (HB3.out.block g (by omega))
    refine Lin.begin ?_
    refine Lin.take 81 rfl rfl (by go_simp <;> with_reducible rfl) (by simp only [Act.put, List.setIfInBounds_toArray, List.set_cons_zero, List.set_cons_succ] <;> rfl) ?_
    refine Lin.take 82 (v := .bool true) rfl rfl (by have h1 := hz0; go_simp <;> with_reducible rfl) (by simp only [Act.put, List.setIfInBounds_toArray, List.set_cons_zero, List.set_cons_succ] <;> rfl) ?_
    refine Lin.done (hKN _ _ ?_)
    refine wp_cond_true rfl ?_
    refine wp_seq_k (fun KF hKF => ?_)
    refine Lin.begin ?_
    refine Lin.take 83 (v := .agg (lbz.arrv none 0 0)) rfl rfl (by go_simp <;> rfl) (by simp only [Act.put, List.setIfInBounds_toArray, List.set_cons_zero, List.set_cons_succ] <;> rfl) ?_
    refine W_store_row 32 g (lbz.arrv none 0 0) 32 (lbz.arrv none 0 0) rfl rfl HR2.out (by kernel_rfl) rfl (arrv_one _ _ _ _) ?_
    simp only [Act.put]
    refine Lin.take 5 rfl rfl (by go_simp <;> with_reducible rfl) (by simp only [Act.put, List.setIfInBounds_toArray, List.set_cons_zero, List.set_cons_succ] <;> rfl) ?_
    refine Lin.take 6 rfl rfl (by go_simp <;> with_reducible rfl) (by simp only [Act.put, List.setIfInBounds_toArray, List.set_cons_zero, List.set_cons_succ] <;> rfl) ?_
    refine Lin.done (hKF _ _ ?_)
    refine wp_ret ?_
    (try simp only [Exit.then])
    refine bodyPost_ret (results_row2 rfl _ _ g 32 (lbz.arrv none 0 0) _ rfl (setRow_at HR2.out) Try.underlying32 rfl (by kernel_rfl)) rfl ?_
    rw [hE]
    exact ⟨none, 0, 0, none, 0, 0, rfl, Sl.nilv _ _, Sl.nilv _ _, below_setRow (HB1.out.trans (HB3.out.mono (by have := HG.out; omega))) (by have := HG.out; omega) _⟩
  have hz0 : ¬ (b : Int) < 0 := by omega
  refine Lin.begin ?_
  refine Lin.take 81 rfl rfl (by go_simp <;> with_reducible rfl) (by simp only [Act.put, List.setIfInBounds_toArray, List.set_cons_zero, List.set_cons_succ] <;> rfl) ?_
  refine Lin.take 82 (v := .bool false) rfl rfl (by have h1 := hz0; go_simp <;> with_reducible rfl) (by simp only [Act.put, List.setIfInBounds_toArray, List.set_cons_zero, List.set_cons_succ] <;> rfl) ?_
  refine Lin.done (hKN _ _ ?_)
  refine wp_cond_false rfl ?_
  refine wp_skip ?_
  refine hK1 _ _ ?_
  clear hK1 K1 hKN KN hz0 HBI
  have hbl : b < xs.length := (candL_mem hbst.mem).1
  have hbv := (candL_mem hbst.mem).2
  have hbI : (b : Int) < n := by have := HLX.out; omega
  have hb0 : (0 : Int) ≤ (b : Int) := by omega
  have hlb := lab_lt hbl
  rw [hlb] at hbv
  have hox := HOK.out _ (List.getElem_mem hbl)
  have hd0 := HX0.out.dead _ (List.getElem_mem hbl)
  have hdx := (HX.out.below HB3.out).dead _ (List.getElem_mem hbl)
  obtain ⟨bL, oL, haL, hbL, rb⟩ := (HX.out.below HB3.out).at hbl
  obtain ⟨x, hxe⟩ : ∃ x, x = xs[b] := ⟨_, rfl⟩
  rw [← hxe] at hlb hbv hox hdx rb hd0
  have RB := Lib.hid rb
  have hvd := valid_dk hbv
  obtain ⟨m, hm⟩ : ∃ m : Nat, x.l.cd = (m : Int) := ⟨x.l.cd.toNat, by omega⟩
  have hm9 : m ≤ 1000 := by omega
  have hxl : x.l.dead.length = x.nd := by have := hdx.len; rw [bb_length] at this; omega
  have hxn : x.nd = m := by omega
  have HDX := Lib.hid hdx
  have HDX0 := Lib.hid hd0
  have HBST := Lib.hid hbst
  have HLB := Lib.hid hlb
  have HM := Lib.hid hm
  have HXN := Lib.hid hxn
  have HXC := Lib.hid hdx.cap
  have HXL := Lib.hid hxl
  subst haL
  clear hbst hbv hlb hox hdx hd0 rb hxe hvd hm hxn hxl
  refine wp_seq_k (fun KA hKA => ?_)
  refine Lin.begin ?_
  refine Lin.take 84 rfl rfl (by go_simp <;> with_reducible rfl) (by simp only [Act.put, List.setIfInBounds_toArray, List.set_cons_zero, List.set_cons_succ] <;> rfl) ?_
  refine Lin.take 85 rfl rfl (by go_simp <;> with_reducible rfl) (by simp only [Act.put, List.setIfInBounds_toArray, List.set_cons_zero, List.set_cons_succ] <;> rfl) ?_
  refine Lin.take 86 (v := .pointer (some ⟨bL, oL + b * 19, none⟩)) rfl rfl (by have h1 := hbI; have h2 := hb0; have h3 := hcapL; go_simp <;> with_reducible rfl) (by simp only [Act.put, List.setIfInBounds_toArray, List.set_cons_zero, List.set_cons_succ] <;> rfl) ?_
  refine Lin.mid 87 true 32 _ bL (oL + b * 19) x.arr.toList _ (by kernel_rfl) rfl rfl (fun _ => rfl) RB.out Try.underlying32 rfl (by kernel_rfl) (by simp only [Act.put, List.setIfInBounds_toArray, List.set_cons_zero, List.set_cons_succ] <;> rfl) ?_
  refine Lin.takeW 9 rfl rfl (by go_simp; exact ⟨rfl, rfl⟩) (by simp only [Act.put, List.setIfInBounds_toArray, List.set_cons_zero, List.set_cons_succ] <;> rfl) ?_
  intro z1 hz1
  obtain ⟨q, hq⟩ : ∃ q, q = w3.heap.size := ⟨_, rfl⟩
  rw [← hq]
  have hrow1 : z1.heap[q]? = some (.cells (lbz.arrv none 0 0) 32 (0, 0)) := by rw [hz1, hq]; exact heap_alloc_new _ _
  have hb1 : Below w3.heap.size w3 z1 := by rw [hz1]; exact (Below.refl _ _).alloc (Nat.le_refl _) _
  have hzs1 : z1.heap.size = q + 1 := by rw [hz1, hq]; simp
  have HQ := Lib.hid hq
  clear hz1 hq
  refine W_store_row 32 q x.arr 32 (lbz.arrv none 0 0) rfl rfl hrow1 (by kernel_rfl) rfl (arrv_one _ _ _ _) ?_
  simp only [Act.put]
  obtain ⟨w4, hw4⟩ : ∃ y, y = z1.setRow q x.arr := ⟨_, rfl⟩
  rw [← hw4]
  have HR4 : Hid (w4.heap[q]? = some (.cells x.arr 32 (0, 0))) := by rw [hw4]; exact Lib.hid (setRow_at hrow1)
  have hb4 : Below w3.heap.size w3 w4 := by rw [hw4]; exact below_setRow hb1 (by have := HQ.out; omega) _
  have hs4 : w4.heap.size = q + 1 := by rw [hw4]; simpa using hzs1
  have HB34 := Lib.hid hb4
  have HB4 := Lib.hid (HB3.out.trans (hb4.mono hs3))
  have HX4 := Lib.hid (HX.out.below HB4.out)
  have HRD4 := Lib.hid (HRD.out.below HB4.out)
  clear hw4 hb1 hrow1 hzs1 hb4 RB
  refine Lin.done (hKA _ _ ?_)
  clear hKA KA
  have HLQ := Lib.hid (LbAt.of HR4.out)
  have KD : Hid (w4.cell? ⟨q, 4, none⟩ = some (.int .i64 (m : Int))) := by rw [← HM.out]; exact Lib.hid HLQ.out.k4
  have hqr : q < w4.heap.size := by omega
  have HDE := Lib.hid (HDX.out.below (show Below w3.heap.size w3 w4 from HB34.out))
  have hbLw : bL < w4.heap.size := by have := HQ.out; omega
  obtain ⟨bR, oR, haR, -⟩ := HRD4.out.at (k := b) (by rw [bb_length]; have := HLR.out; omega)
  subst haR
  refine wp_seq_k (fun KA hKA => ?_)
  refine Lin.begin ?_
  refine Lin.take 88 rfl rfl (by go_simp <;> with_reducible rfl) (by simp only [Act.put, List.setIfInBounds_toArray, List.set_cons_zero, List.set_cons_succ] <;> rfl) ?_
  refine Lin.take 89 rfl rfl (by go_simp <;> with_reducible rfl) (by simp only [Act.put, List.setIfInBounds_toArray, List.set_cons_zero, List.set_cons_succ] <;> rfl) ?_
  refine Lin.take 90 (v := .int .i64 (m : Int)) rfl rfl (by have hc := KD.out; go_simp <;> with_reducible rfl) (by simp only [Act.put, List.setIfInBounds_toArray, List.set_cons_zero, List.set_cons_succ] <;> rfl) ?_
  refine wpList_makeI w4 rfl rfl rfl rfl hm9 ?_
  intro w5 hown5 hg5
  simp only [Act.put, List.setIfInBounds_toArray, List.set_cons_zero, List.set_cons_succ] 
  have hb5 : Below w4.heap.size w4 w5 := (Below.refl _ _).grown hg5 (Nat.le_refl _) (by simp)
  obtain ⟨gA, hgA⟩ : ∃ gA, gA = w4.heap.size := ⟨_, rfl⟩
  rw [← hgA] at hown5
  rw [← hgA]
  have HO5 := Lib.hid hown5
  have HB5 := Lib.hid hb5
  have hs5 := hb5.size
  have HGA := Lib.hid hgA
  clear hown5 hg5 hb5 hgA
  refine Lin.take 10 rfl rfl (by go_simp <;> with_reducible rfl) (by simp only [Act.put, List.setIfInBounds_toArray, List.set_cons_zero, List.set_cons_succ] <;> rfl) ?_
  refine Lin.done (hKA _ _ ?_)
  clear hKA KA
  refine wp_seq_k (fun KL hKL => ?_)
  have HKL := Lib.hid hKL
  clear hKL
  go_wp2
  go_loopw [11] (fun dv wr => ∃ d : Nat, dv = .int .i64 (d : Int) ∧ d ≤ m ∧ Hid (wr.ownsRow gA 3 1 (.slice (some ⟨gA, 0, none⟩) m m) m (zc (refP xs x.l (candL xs rd) m d))) ∧ Hid (Below w4.heap.size w4 wr)) (fun dv _ => m - (intOf dv).toNat)
  case atStart => exact ⟨0, rfl, by omega, by simpa [refP] using HO5, HB5⟩
  case round =>
  obtain ⟨d, rfl, hdm', HO, HBW⟩ := hrel
  by_cases hdm : d < m
  · have hdI : (d : Int) < m := by omega
    have hd0 : (0 : Int) ≤ (d : Int) := by omega
    have hdn : (d : Int) < x.nd := by have := HXN.out; omega
    have hdl : d < x.l.dead.length := by have := HXN.out; have := HXL.out; omega
    obtain ⟨bD, oD, haD, hcellD⟩ := HDE.out.at (k := d) (by rw [bb_length]; exact hdl)
    have hcD := hcellD d (by rw [bb_length]; exact hdl)
    simp only [bb, List.getElem_map] at hcD
    have hid : inDead x.l.dead (d : Int) = x.l.dead[d] := inDead_get (x := (d : Int)) hdl
    rw [← hid] at hcD
    have hbD := World.block_lt_of_cell? w4 _ hcD
    have HAD := Lib.hid haD
    obtain ⟨DD, hDD⟩ : ∃ DD, DD = inDead x.l.dead (d : Int) := ⟨_, rfl⟩
    have CDD : Hid (∀ z, Below w4.heap.size w4 z → z.cell? ⟨bD, oD + d, none⟩ = some (.bool (inDead x.l.dead (d : Int)))) := Lib.hid fun z hz => below_cell hz hbD hcD
    have HDD := Lib.hid hDD
    clear hcellD hcD hid haD hDD hdl hbD
    refine wp_seq_k (fun KA hKA => ?_)
    refine wp_seq_k (fun KA2 hKA2 => ?_)
    refine Lin.begin ?_
    refine Lin.take 92 rfl rfl (by go_simp <;> with_reducible rfl) (by simp only [Act.put, List.setIfInBounds_toArray, List.set_cons_zero, List.set_cons_succ] <;> rfl) ?_
    refine Lin.take 93 rfl rfl (by go_simp <;> with_reducible rfl) (by simp only [Act.put, List.setIfInBounds_toArray, List.set_cons_zero, List.set_cons_succ] <;> rfl) ?_
    refine Lin.take 94 rfl rfl (by go_simp <;> with_reducible rfl) (by simp only [Act.put, List.setIfInBounds_toArray, List.set_cons_zero, List.set_cons_succ] <;> rfl) ?_
    refine Lin.take 95 (v := .bool true) rfl rfl (by have h1 := hdI; go_simp <;> with_reducible rfl) (by simp only [Act.put, List.setIfInBounds_toArray, List.set_cons_zero, List.set_cons_succ] <;> rfl) ?_
    refine Lin.done (hKA2 _ _ ?_)
    refine wp_cond_true rfl ?_
    refine wp_skip ?_
    refine hKA _ _ ?_
    clear hKA hKA2 KA KA2
    refine wp_seq_k (fun KO hKO => ?_)
    have HKO := Lib.hid hKO
    clear hKO
    refine wp_block ?_
    refine wp_seq_k (fun KD hKD => ?_)
    refine Lin.begin ?_
    refine Lin.take 98 rfl rfl (by go_simp <;> with_reducible rfl) (by simp only [Act.put, List.setIfInBounds_toArray, List.set_cons_zero, List.set_cons_succ] <;> rfl) ?_
    refine Lin.take 99 rfl rfl (by go_simp <;> with_reducible rfl) (by simp only [Act.put, List.setIfInBounds_toArray, List.set_cons_zero, List.set_cons_succ] <;> rfl) ?_
    refine Lin.take 100 (v := .pointer (some ⟨gA, d, none⟩)) rfl rfl (by have h1 := hdI; have h2 := hd0; go_simp <;> (first | with_reducible rfl | simp)) (by simp only [Act.put, List.setIfInBounds_toArray, List.set_cons_zero, List.set_cons_succ] <;> rfl) ?_
    refine Lin.store (w' := wr.setCell ⟨gA, d, none⟩ (.int .i64 (-1))) rfl (by have hc := HO.out.cellAt d (by omega); rw [refP_get hdm] at hc; have hf := HO.out.frozenAt d; go_simp <;> (first | exact ⟨rfl, rfl⟩ | rfl)) (by simp only [Act.put] <;> rfl) ?_
    intro z9 hz9
    have HO9 : Hid (z9.ownsRow gA 3 1 (.slice (some ⟨gA, 0, none⟩) m m) m (zc ((refP xs x.l (candL xs rd) m d).set d (-1)))) := by
      have h1 := (HO.out.stored d (.int .i64 (-1))).1
      rw [zc_set] at h1
      rw [hz9]
      exact Lib.hid h1
    have HB9 : Hid (Below w4.heap.size w4 z9) := by rw [hz9]; exact Lib.hid (HBW.out.setCell (p := ⟨gA, d, none⟩) (by rw [HGA.out]; exact Nat.le_refl _) _)
    clear hz9
    refine Lin.done (hKD _ _ ?_)
    clear hKD KD
    refine wp_seq_k (fun KI hKI => ?_)
    have HKI := Lib.hid hKI
    clear hKI
    go_wp2
    go_loopw [12] (fun iv wr => ∃ (k : Nat) (i : Int), iv = .int .i64 i ∧ i = (k : Int) - 1 ∧ k ≤ n ∧ Hid (wr.ownsRow gA 3 1 (.slice (some ⟨gA, 0, none⟩) m m) m (zc ((refP xs x.l (candL xs rd) m d).set d (oI (fromK n k (fun i => okI xs rd i && pvP xs x.l (d : Int) i)))))) ∧ Hid (Below w4.heap.size w4 wr)) (fun iv _ => (intOf iv + 1).toNat)
    case atStart => exact ⟨n, (n : Int) - 1, by go_num, rfl, by omega, by rw [fromK_none]; exact HO9, HB9⟩
    case round =>
    obtain ⟨k, i, rfl, hik, hkn, HROW, HBK⟩ := hrel
    rename World => wk
    by_cases hk : 1 ≤ k
    · obtain ⟨j, rfl⟩ : ∃ j, k = j + 1 := ⟨k - 1, by omega⟩
      obtain rfl : i = (j : Int) := by omega
      have hjn : j < n := by omega
      have hjI : (j : Int) < n := by omega
      have hj0 : (0 : Int) ≤ (j : Int) := by omega
      have hil : j < xs.length := by have := HLX.out; omega
      have hir : j < rd.length := by have := HLR.out; omega
      obtain ⟨bL', oL', haL, hbL9, r0⟩ := HX4.out.at hil
      obtain ⟨rfl, rfl⟩ : bL = bL' ∧ oL = oL' := by simpa using haL
      obtain ⟨bR', oR', haR, hcellR⟩ := HRD4.out.at (k := j) (by rw [bb_length]; exact hir)
      obtain ⟨rfl, rfl⟩ : bR = bR' ∧ oR = oR' := by simpa using haR
      have hcR := hcellR j (by rw [bb_length]; exact hir)
      simp only [bb, List.getElem_map] at hcR
      have hbR := World.block_lt_of_cell? w4 _ hcR
      simp only at hbR
      have hdy := HX4.out.dead _ (List.getElem_mem hil)
      have hcp := candP_succ xs rd j
      have hoki : okI xs rd j = (rd[j] && decide (lab xs j).valid) := by
        unfold okI
        rw [List.getD_eq_getElem?_getD, List.getElem?_eq_getElem hir]
        rfl
      have hlab := lab_lt hil
      rw [hoki, hlab] at hcp
      rw [hlab] at hoki
      have hoy := HOK.out _ (List.getElem_mem hil)
      obtain ⟨y, hye⟩ : ∃ y, y = xs[j] := ⟨_, rfl⟩
      obtain ⟨rb, hrb⟩ : ∃ rb, rb = rd[j] := ⟨_, rfl⟩
      rw [← hye] at r0 hcp hdy hoy hlab hoki
      rw [← hrb] at hcR hcp hoki
      obtain ⟨V, hV⟩ : ∃ V, V = decide y.l.valid := ⟨_, rfl⟩
      rw [← hV] at hcp hoki
      have RI := Lib.hid r0
      have CR : Hid (∀ z, Below w4.heap.size w4 z → z.cell? ⟨bR, oR + j, none⟩ = some (.bool rb)) := Lib.hid fun z hz => below_cell hz hbR hcR
      have HCP := Lib.hid hcp
      have HOKI := Lib.hid hoki
      have HDY := Lib.hid hdy
      have HOY := Lib.hid hoy
      have HLAB := Lib.hid hlab
      have HVE := Lib.hid hV
      have HV : Hid (∀ z, Below w4.heap.size w4 z → Calls Try.prog 16 #[.agg y.arr.toList.toArray] z fun e w' => e = .returned (.bool V) ∧ Below z.heap.size z w') := by
        rw [hV]
        exact Lib.hid fun z hz => refValid_any y.l y.ad y.nd y.c z (hdy.below hz) hoy
      clear hcellR hcR hcp hdy hoy hye hrb hoki r0 hlab hV haL haR hik
      refine wp_seq_k (fun KB hKB => ?_)
      refine wp_seq_k (fun KB2 hKB2 => ?_)
      refine Lin.begin ?_
      refine Lin.take 104 rfl rfl (by go_simp <;> with_reducible rfl) (by simp only [Act.put, List.setIfInBounds_toArray, List.set_cons_zero, List.set_cons_succ] <;> rfl) ?_
      refine Lin.take 105 (v := .bool true) rfl rfl (by have h1 := hj0; go_simp <;> with_reducible rfl) (by simp only [Act.put, List.setIfInBounds_toArray, List.set_cons_zero, List.set_cons_succ] <;> rfl) ?_
      refine Lin.done (hKB2 _ _ ?_)
      refine wp_cond_true rfl ?_
      refine wp_skip ?_
      refine hKB _ _ ?_
      clear hKB hKB2 KB KB2
      refine wp_seq_k (fun KC hKC => ?_)
      refine wp_block ?_
      refine wp_seq_k (fun KD hKD => ?_)
      refine Lin.begin ?_
      refine Lin.take 108 rfl rfl (by go_simp <;> with_reducible rfl) (by simp only [Act.put, List.setIfInBounds_toArray, List.set_cons_zero, List.set_cons_succ] <;> rfl) ?_
      refine Lin.take 109 rfl rfl (by go_simp <;> with_reducible rfl) (by simp only [Act.put, List.setIfInBounds_toArray, List.set_cons_zero, List.set_cons_succ] <;> rfl) ?_
      refine Lin.take 110 (v := .pointer (some ⟨bL, oL + j * 19, none⟩)) rfl rfl (by have h1 := hjI; have h2 := hj0; have h3 := hcapL; go_simp <;> with_reducible rfl) (by simp only [Act.put, List.setIfInBounds_toArray, List.set_cons_zero, List.set_cons_succ] <;> rfl) ?_
      refine Lin.mid 111 true 32 _ bL (oL + j * 19) y.arr.toList _ (by kernel_rfl) rfl rfl (fun _ => rfl) (rangeAt_below RI.out HBK.out hbLw) Try.underlying32 rfl (by kernel_rfl) (by simp only [Act.put, List.setIfInBounds_toArray, List.set_cons_zero, List.set_cons_succ] <;> rfl) ?_
      refine Lin.takeW 13 rfl rfl (by go_simp; exact ⟨rfl, rfl⟩) (by simp only [Act.put, List.setIfInBounds_toArray, List.set_cons_zero, List.set_cons_succ] <;> rfl) ?_
      intro z1 hz1
      obtain ⟨p, hp⟩ : ∃ p, p = wk.heap.size := ⟨_, rfl⟩
      rw [← hp]
      have hrow1 : z1.heap[p]? = some (.cells (lbz.arrv none 0 0) 32 (0, 0)) := by rw [hz1, hp]; exact heap_alloc_new _ _
      have hb1 : Below wk.heap.size wk z1 := by rw [hz1]; exact (Below.refl _ _).alloc (Nat.le_refl _) _
      have hzs1 : z1.heap.size = p + 1 := by rw [hz1, hp]; simp
      have HP := Lib.hid hp
      clear hz1 hp
      refine W_store_row 32 p y.arr 32 (lbz.arrv none 0 0) rfl rfl hrow1 (by kernel_rfl) rfl (arrv_one _ _ _ _) ?_
      simp only [Act.put]
      obtain ⟨z2, hz2⟩ : ∃ y0, y0 = z1.setRow p y.arr := ⟨_, rfl⟩
      rw [← hz2]
      have HL2 : Hid (LbAt y.l y.ad y.nd y.c p z2) := by rw [hz2]; exact Lib.hid (LbAt.of (setRow_at hrow1))
      have HB2 : Hid (Below wk.heap.size wk z2) := by rw [hz2]; exact Lib.hid (below_setRow hb1 (by have := HP.out; omega) _)
      have hzs2 : z2.heap.size = p + 1 := by rw [hz2]; simpa using hzs1
      have HBK2 := Lib.hid (HBK.out.trans (HB2.out.mono HBK.out.size))
      clear hz2 hb1 hrow1
      refine Lin.done (hKD _ _ ?_)
      clear hKD KD
      refine wp_seq_k (fun KD hKD => ?_)
      refine Lin.begin ?_
      refine Lin.take 112 rfl rfl (by go_simp <;> with_reducible rfl) (by simp only [Act.put, List.setIfInBounds_toArray, List.set_cons_zero, List.set_cons_succ] <;> rfl) ?_
      refine Lin.take 113 rfl rfl (by go_simp <;> with_reducible rfl) (by simp only [Act.put, List.setIfInBounds_toArray, List.set_cons_zero, List.set_cons_succ] <;> rfl) ?_
      refine Lin.take 114 (v := .pointer (some ⟨bR, oR + j, none⟩)) rfl rfl (by have h1 := hjI; have h2 := hj0; have h3 := hcapR; go_simp <;> with_reducible rfl) (by simp only [Act.put, List.setIfInBounds_toArray, List.set_cons_zero, List.set_cons_succ] <;> rfl) ?_
      refine Lin.take 115 (v := .bool rb) rfl rfl (by have hc := CR.out _ HBK2.out; go_simp <;> with_reducible rfl) (by simp only [Act.put, List.setIfInBounds_toArray, List.set_cons_zero, List.set_cons_succ] <;> rfl) ?_
      refine Lin.bool 116 rfl rfl (by go_simp <;> with_reducible rfl) ?_
      intro B116 hB116 aa ha; simp only [Act.put, List.setIfInBounds_toArray, List.set_cons_zero, List.set_cons_succ] at ha; subst ha; replace hB116 := Lib.hid hB116
      refine Lin.mid 117 B116 32 _ p 0 y.arr.toList _ (by cases B116 <;> kernel_rfl) rfl rfl (fun hc => by (try simp only [hc, gv_true]); rfl) HL2.out.range Try.underlying32 rfl (by kernel_rfl) (by simp only [Act.put, List.setIfInBounds_toArray, List.set_cons_zero, List.set_cons_succ] <;> rfl) ?_
      refine Lin.mayEnter 118 B116 (v := .bool V) (S := Below z2.heap.size z2) (by cases B116 <;> kernel_rfl) rfl (by intro hc; (try simp only [hc, gv_true]); go_simp <;> (first | exact ⟨rfl, rfl⟩ | rfl)) (fun hc => HV.out _ HBK2.out) (fun _ => Below.refl _ _) (by simp only [Act.put, List.setIfInBounds_toArray, List.set_cons_zero, List.set_cons_succ] <;> rfl) ?_
      intro z3 hb3
      have HB3 := Lib.hid (HB2.out.trans (hb3.mono (by have := HP.out; omega)))
      have HBK3 := Lib.hid (HBK2.out.trans (hb3.mono HBK2.out.size))
      have hz3 := hb3.size
      have HL3 := Lib.hid (HL2.out.below hb3 (by omega))
      have HQ3 := Lib.hid (HLQ.out.below HBK3.out hqr)
      clear hb3
      refine Lin.and 119 116 118 rfl rfl rfl rfl rfl ?_
      intro B119 hB119 aa ha; simp only [Act.put, List.setIfInBounds_toArray, List.set_cons_zero, List.set_cons_succ] at ha; subst ha; replace hB119 := Lib.hid hB119
      refine Lin.take 120 rfl rfl (by go_simp <;> with_reducible rfl) (by simp only [Act.put, List.setIfInBounds_toArray, List.set_cons_zero, List.set_cons_succ] <;> rfl) ?_
      refine Lin.may 121 B119 (by cases B119 <;> kernel_rfl) rfl (by intro hc; (try simp only [hc, gv_true]); go_simp <;> with_reducible rfl) (by simp only [Act.put, List.setIfInBounds_toArray, List.set_cons_zero, List.set_cons_succ] <;> rfl) ?_
      refine Lin.may 122 B119 (by cases B119 <;> kernel_rfl) rfl (by intro hc; (try simp only [hc, gv_true]); obtain ⟨k0, k1, k2, k3, k4, k5, k6, k7, k8, k9, k10, k11, k12, k13, k14, k15, k16, k17, k18⟩ := HL3.out; go_simp <;> with_reducible rfl) (by simp only [Act.put, List.setIfInBounds_toArray, List.set_cons_zero, List.set_cons_succ] <;> rfl) ?_
      refine Lin.may 123 B119 (by cases B119 <;> kernel_rfl) rfl (by intro hc; (try simp only [hc, gv_true]); go_simp <;> with_reducible rfl) (by simp only [Act.put, List.setIfInBounds_toArray, List.set_cons_zero, List.set_cons_succ] <;> rfl) ?_
      refine Lin.may 124 B119 (v := .bool (decide (y.l.dk = (d : Int)))) (by cases B119 <;> kernel_rfl) rfl (by intro hc; (try simp only [hc, gv_true]); skip; go_simp <;> rfl) (by simp only [Act.put, List.setIfInBounds_toArray, List.set_cons_zero, List.set_cons_succ] <;> rfl) ?_
      refine Lin.and 125 120 124 rfl rfl rfl rfl rfl ?_
      intro B125 hB125 aa ha; simp only [Act.put, List.setIfInBounds_toArray, List.set_cons_zero, List.set_cons_succ] at ha; subst ha; replace hB125 := Lib.hid hB125
      refine Lin.take 126 rfl rfl (by go_simp <;> with_reducible rfl) (by simp only [Act.put, List.setIfInBounds_toArray, List.set_cons_zero, List.set_cons_succ] <;> rfl) ?_
      refine Lin.may 127 B125 (by cases B125 <;> kernel_rfl) rfl (by intro hc; (try simp only [hc, gv_true]); go_simp <;> with_reducible rfl) (by simp only [Act.put, List.setIfInBounds_toArray, List.set_cons_zero, List.set_cons_succ] <;> rfl) ?_
      refine Lin.may 128 B125 (by cases B125 <;> kernel_rfl) rfl (by intro hc; (try simp only [hc, gv_true]); obtain ⟨k0, k1, k2, k3, k4, k5, k6, k7, k8, k9, k10, k11, k12, k13, k14, k15, k16, k17, k18⟩ := HL3.out; go_simp <;> with_reducible rfl) (by simp only [Act.put, List.setIfInBounds_toArray, List.set_cons_zero, List.set_cons_succ] <;> rfl) ?_
      refine Lin.may 129 B125 (by cases B125 <;> kernel_rfl) rfl (by intro hc; (try simp only [hc, gv_true]); go_simp <;> with_reducible rfl) (by simp only [Act.put, List.setIfInBounds_toArray, List.set_cons_zero, List.set_cons_succ] <;> rfl) ?_
      refine Lin.may 130 B125 (by cases B125 <;> kernel_rfl) rfl (by intro hc; (try simp only [hc, gv_true]); obtain ⟨k0, k1, k2, k3, k4, k5, k6, k7, k8, k9, k10, k11, k12, k13, k14, k15, k16, k17, k18⟩ := HQ3.out; go_simp <;> with_reducible rfl) (by simp only [Act.put, List.setIfInBounds_toArray, List.set_cons_zero, List.set_cons_succ] <;> rfl) ?_
      refine Lin.may 131 B125 (v := .bool (decide (y.l.arr = x.l.arr))) (by cases B125 <;> kernel_rfl) rfl (by intro hc; (try simp only [hc, gv_true]); skip; go_simp <;> rfl) (by simp only [Act.put, List.setIfInBounds_toArray, List.set_cons_zero, List.set_cons_succ] <;> rfl) ?_
      refine Lin.and 132 126 131 rfl rfl rfl rfl rfl ?_
      intro B132 hB132 aa ha; simp only [Act.put, List.setIfInBounds_toArray, List.set_cons_zero, List.set_cons_succ] at ha; subst ha; replace hB132 := Lib.hid hB132
      refine Lin.take 133 rfl rfl (by go_simp <;> with_reducible rfl) (by simp only [Act.put, List.setIfInBounds_toArray, List.set_cons_zero, List.set_cons_succ] <;> rfl) ?_
      refine Lin.may 134 B132 (by cases B132 <;> kernel_rfl) rfl (by intro hc; (try simp only [hc, gv_true]); go_simp <;> with_reducible rfl) (by simp only [Act.put, List.setIfInBounds_toArray, List.set_cons_zero, List.set_cons_succ] <;> rfl) ?_
      refine Lin.mid 135 B132 30 _ p 4 y.l.cfgv.toList _ (by cases B132 <;> kernel_rfl) rfl rfl (fun hc => by (try simp only [hc, gv_true]); rfl) HL3.out.cfg Try.underlying30 rfl (by kernel_rfl) (by simp only [Act.put, List.setIfInBounds_toArray, List.set_cons_zero, List.set_cons_succ] <;> rfl) ?_
      refine Lin.may 136 B132 (by cases B132 <;> kernel_rfl) rfl (by intro hc; (try simp only [hc, gv_true]); go_simp <;> with_reducible rfl) (by simp only [Act.put, List.setIfInBounds_toArray, List.set_cons_zero, List.set_cons_succ] <;> rfl) ?_
      refine Lin.mid 137 B132 30 _ q 4 x.l.cfgv.toList _ (by cases B132 <;> kernel_rfl) rfl rfl (fun hc => by (try simp only [hc, gv_true]); rfl) HQ3.out.cfg Try.underlying30 rfl (by kernel_rfl) (by simp only [Act.put, List.setIfInBounds_toArray, List.set_cons_zero, List.set_cons_succ] <;> rfl) ?_
      refine Lin.may 138 B132 (v := .bool (decide (y.l.cfgSame x.l))) (by cases B132 <;> kernel_rfl) rfl (by intro hc; simp only [hc, gv_true]; exact cfgEq_run y.l x.l rfl rfl rfl _) (by simp only [Act.put, List.setIfInBounds_toArray, List.set_cons_zero, List.set_cons_succ] <;> rfl) ?_
      refine Lin.and 139 133 138 rfl rfl rfl rfl rfl ?_
      intro B139 hB139 aa ha; simp only [Act.put, List.setIfInBounds_toArray, List.set_cons_zero, List.set_cons_succ] at ha; subst ha; replace hB139 := Lib.hid hB139
      refine Lin.take 140 rfl rfl (by go_simp <;> with_reducible rfl) (by simp only [Act.put, List.setIfInBounds_toArray, List.set_cons_zero, List.set_cons_succ] <;> rfl) ?_
      refine Lin.may 141 B139 (by cases B139 <;> kernel_rfl) rfl (by intro hc; (try simp only [hc, gv_true]); go_simp <;> with_reducible rfl) (by simp only [Act.put, List.setIfInBounds_toArray, List.set_cons_zero, List.set_cons_succ] <;> rfl) ?_
      refine Lin.may 142 B139 (v := .slice x.ad x.nd x.c) (by cases B139 <;> kernel_rfl) rfl (by intro hc; (try simp only [hc, gv_true]); obtain ⟨k0, k1, k2, k3, k4, k5, k6, k7, k8, k9, k10, k11, k12, k13, k14, k15, k16, k17, k18⟩ := HQ3.out; go_simp <;> with_reducible rfl) (by simp only [Act.put, List.setIfInBounds_toArray, List.set_cons_zero, List.set_cons_succ] <;> rfl) ?_
      refine Lin.may 143 B139 (by cases B139 <;> kernel_rfl) rfl (by intro hc; (try simp only [hc, gv_true]); go_simp <;> with_reducible rfl) (by simp only [Act.put, List.setIfInBounds_toArray, List.set_cons_zero, List.set_cons_succ] <;> rfl) ?_
      refine Lin.may 144 B139 (v := .pointer (some ⟨bD, oD + d, none⟩)) (by cases B139 <;> kernel_rfl) rfl (by intro hc; (try simp only [hc, gv_true]); have h9 := HAD.out; have h1 := hdn; have h2 := hd0; have h3 := HXC.out; go_simp <;> with_reducible rfl) (by simp only [Act.put, List.setIfInBounds_toArray, List.set_cons_zero, List.set_cons_succ] <;> rfl) ?_
      refine Lin.may 145 B139 (v := .bool (inDead x.l.dead (d : Int))) (by cases B139 <;> kernel_rfl) rfl (by intro hc; (try simp only [hc, gv_true]); have hc := CDD.out _ HBK3.out; go_simp <;> with_reducible rfl) (by simp only [Act.put, List.setIfInBounds_toArray, List.set_cons_zero, List.set_cons_succ] <;> rfl) ?_
      refine Lin.may 146 B139 (v := .bool (!inDead x.l.dead (d : Int))) (by cases B139 <;> kernel_rfl) rfl (by intro hc; (try simp only [hc, gv_true]); skip; go_simp <;> with_reducible rfl) (by simp only [Act.put, List.setIfInBounds_toArray, List.set_cons_zero, List.set_cons_succ] <;> rfl) ?_
      refine Lin.and 147 140 146 rfl rfl rfl rfl rfl ?_
      intro B147 hB147 aa ha; simp only [Act.put, List.setIfInBounds_toArray, List.set_cons_zero, List.set_cons_succ] at ha; subst ha; replace hB147 := Lib.hid hB147
      refine Lin.take 148 rfl rfl (by go_simp <;> with_reducible rfl) (by simp only [Act.put, List.setIfInBounds_toArray, List.set_cons_zero, List.set_cons_succ] <;> rfl) ?_
      refine Lin.may 149 B147 (by cases B147 <;> kernel_rfl) rfl (by intro hc; (try simp only [hc, gv_true]); go_simp <;> with_reducible rfl) (by simp only [Act.put, List.setIfInBounds_toArray, List.set_cons_zero, List.set_cons_succ] <;> rfl) ?_
      refine Lin.may 150 B147 (by cases B147 <;> kernel_rfl) rfl (by intro hc; (try simp only [hc, gv_true]); obtain ⟨k0, k1, k2, k3, k4, k5, k6, k7, k8, k9, k10, k11, k12, k13, k14, k15, k16, k17, k18⟩ := HL3.out; go_simp <;> with_reducible rfl) (by simp only [Act.put, List.setIfInBounds_toArray, List.set_cons_zero, List.set_cons_succ] <;> rfl) ?_
      refine Lin.may 151 B147 (by cases B147 <;> kernel_rfl) rfl (by intro hc; (try simp only [hc, gv_true]); go_simp <;> with_reducible rfl) (by simp only [Act.put, List.setIfInBounds_toArray, List.set_cons_zero, List.set_cons_succ] <;> rfl) ?_
      refine Lin.may 152 B147 (by cases B147 <;> kernel_rfl) rfl (by intro hc; (try simp only [hc, gv_true]); obtain ⟨k0, k1, k2, k3, k4, k5, k6, k7, k8, k9, k10, k11, k12, k13, k14, k15, k16, k17, k18⟩ := HQ3.out; go_simp <;> with_reducible rfl) (by simp only [Act.put, List.setIfInBounds_toArray, List.set_cons_zero, List.set_cons_succ] <;> rfl) ?_
      refine Lin.may 153 B147 (v := .bool (decide (y.l.gen = x.l.prev))) (by cases B147 <;> kernel_rfl) rfl (by intro hc; (try simp only [hc, gv_true]); skip; go_simp <;> rfl) (by simp only [Act.put, List.setIfInBounds_toArray, List.set_cons_zero, List.set_cons_succ] <;> rfl) ?_
      refine Lin.and 154 148 153 rfl rfl rfl rfl rfl ?_
      intro B154 hB154 aa ha; simp only [Act.put, List.setIfInBounds_toArray, List.set_cons_zero, List.set_cons_succ] at ha; subst ha; replace hB154 := Lib.hid hB154
      refine Lin.done (hKD _ _ ?_)
      clear hKD KD
      have hP : (okI xs rd j && pvP xs x.l (d : Int) j) = B154 := by
        rw [hB154.out, hB147.out, hB139.out, hB132.out, hB125.out, hB119.out, hB116.out, HOKI.out]
        unfold pvP
        rw [HLAB.out]
        simp only [Bool.and_assoc]
      have hfk := fromK_step hjn (fun i => okI xs rd i && pvP xs x.l (d : Int) i)
      simp only [hP] at hfk
      have HFK := Lib.hid hfk
      have HOK3 := Lib.hid (owns_belowI HROW.out HB3.out)
      clear hP hfk hB154 hB147 hB139 hB132 hB125 hB119 hB116
      refine wp_cond_split rfl (fun ht => ?_) (fun hf => ?_)
      · rw [ht, if_pos rfl] at HFK
        clear ht
        refine Lin.begin ?_
        refine Lin.take 155 rfl rfl (by go_simp <;> with_reducible rfl) (by simp only [Act.put, List.setIfInBounds_toArray, List.set_cons_zero, List.set_cons_succ] <;> rfl) ?_
        refine Lin.take 156 rfl rfl (by go_simp <;> with_reducible rfl) (by simp only [Act.put, List.setIfInBounds_toArray, List.set_cons_zero, List.set_cons_succ] <;> rfl) ?_
        refine Lin.take 157 rfl rfl (by go_simp <;> with_reducible rfl) (by simp only [Act.put, List.setIfInBounds_toArray, List.set_cons_zero, List.set_cons_succ] <;> rfl) ?_
        refine Lin.take 158 (v := .pointer (some ⟨gA, d, none⟩)) rfl rfl (by have h1 := hdI; have h2 := hd0; go_simp <;> (first | with_reducible rfl | simp)) (by simp only [Act.put, List.setIfInBounds_toArray, List.set_cons_zero, List.set_cons_succ] <;> rfl) ?_
        refine Lin.store (w' := z3.setCell ⟨gA, d, none⟩ (.int .i64 (j : Int))) rfl (by have hc := HOK3.out.cellAt d (by omega); rw [refS_get hdm] at hc; have hf := HOK3.out.frozenAt d; go_simp <;> (first | exact ⟨rfl, rfl⟩ | rfl)) (by simp only [Act.put] <;> rfl) ?_
        intro z9 hz9
        have HO9 : Hid (z9.ownsRow gA 3 1 (.slice (some ⟨gA, 0, none⟩) m m) m (zc ((refP xs x.l (candL xs rd) m d).set d (j : Int)))) := by
          have h1 := (HOK3.out.stored d (.int .i64 (j : Int))).1
          rw [zc_set, List.set_set] at h1
          rw [hz9]
          exact Lib.hid h1
        have HB9 : Hid (Below w4.heap.size w4 z9) := by rw [hz9]; exact Lib.hid (HBK3.out.setCell (p := ⟨gA, d, none⟩) (by rw [HGA.out]; exact Nat.le_refl _) _)
        clear hz9
        refine Lin.end ?_
        (try simp only [Exit.inBlock, Exit.then])
        refine hKC _ _ ?_
        go_wp2
        go_roundw
        case rel => exact ⟨j, (j : Int) - 1, by go_num, rfl, by omega, by rw [HFK.out]; exact HO9, HB9⟩
        case measure => first | (simp [intOf]; omega) | simp [intOf]
      · rw [hf, if_neg (by simp)] at HFK
        clear hf
        refine wp_skip ?_
        (try simp only [Exit.inBlock, Exit.then])
        refine hKC _ _ ?_
        go_wp2
        go_roundw
        case rel => exact ⟨j, (j : Int) - 1, by go_num, rfl, by omega, by rw [HFK.out]; exact HOK3, HBK3⟩
        case measure => first | (simp [intOf]; omega) | simp [intOf]
    obtain rfl : k = 0 := by omega
    obtain rfl : i = -1 := by omega
    clear hik hkn hk
    have HRA := HROW
    have HBA := HBK
    clear HROW HBK HO9 HB9
    go_wp2
    refine HKI.out _ _ ?_
    clear HKI
    go_wp2
    go_loopw [14] (fun iv wr => ∃ (k : Nat) (i : Int), iv = .int .i64 i ∧ i = (k : Int) - 1 ∧ k ≤ n ∧ Hid (wr.ownsRow gA 3 1 (.slice (some ⟨gA, 0, none⟩) m m) m (zc ((refP xs x.l (candL xs rd) m d).set d (oI ((fromK n k (fun i => okI xs rd i && eqP xs x.l (d : Int) i)).or (fromK n 0 (fun i => okI xs rd i && pvP xs x.l (d : Int) i))))))) ∧ Hid (Below w4.heap.size w4 wr)) (fun iv _ => (intOf iv + 1).toNat)
    case atStart => exact ⟨n, (n : Int) - 1, by go_num, rfl, by omega, by rw [fromK_none]; exact HRA, HBA⟩
    case round =>
    obtain ⟨k, i, rfl, hik, hkn, HROW, HBK⟩ := hrel
    rename World => wk
    by_cases hk : 1 ≤ k
    · obtain ⟨j, rfl⟩ : ∃ j, k = j + 1 := ⟨k - 1, by omega⟩
      obtain rfl : i = (j : Int) := by omega
      have hjn : j < n := by omega
      have hjI : (j : Int) < n := by omega
      have hj0 : (0 : Int) ≤ (j : Int) := by omega
      have hil : j < xs.length := by have := HLX.out; omega
      have hir : j < rd.length := by have := HLR.out; omega
      obtain ⟨bL', oL', haL, hbL9, r0⟩ := HX4.out.at hil
      obtain ⟨rfl, rfl⟩ : bL = bL' ∧ oL = oL' := by simpa using haL
      obtain ⟨bR', oR', haR, hcellR⟩ := HRD4.out.at (k := j) (by rw [bb_length]; exact hir)
      obtain ⟨rfl, rfl⟩ : bR = bR' ∧ oR = oR' := by simpa using haR
      have hcR := hcellR j (by rw [bb_length]; exact hir)
      simp only [bb, List.getElem_map] at hcR
      have hbR := World.block_lt_of_cell? w4 _ hcR
      simp only at hbR
      have hdy := HX4.out.dead _ (List.getElem_mem hil)
      have hcp := candP_succ xs rd j
      have hoki : okI xs rd j = (rd[j] && decide (lab xs j).valid) := by
        unfold okI
        rw [List.getD_eq_getElem?_getD, List.getElem?_eq_getElem hir]
        rfl
      have hlab := lab_lt hil
      rw [hoki, hlab] at hcp
      rw [hlab] at hoki
      have hoy := HOK.out _ (List.getElem_mem hil)
      obtain ⟨y, hye⟩ : ∃ y, y = xs[j] := ⟨_, rfl⟩
      obtain ⟨rb, hrb⟩ : ∃ rb, rb = rd[j] := ⟨_, rfl⟩
      rw [← hye] at r0 hcp hdy hoy hlab hoki
      rw [← hrb] at hcR hcp hoki
      obtain ⟨V, hV⟩ : ∃ V, V = decide y.l.valid := ⟨_, rfl⟩
      rw [← hV] at hcp hoki
      have RI := Lib.hid r0
      have CR : Hid (∀ z, Below w4.heap.size w4 z → z.cell? ⟨bR, oR + j, none⟩ = some (.bool rb)) := Lib.hid fun z hz => below_cell hz hbR hcR
      have HCP := Lib.hid hcp
      have HOKI := Lib.hid hoki
      have HDY := Lib.hid hdy
      have HOY := Lib.hid hoy
      have HLAB := Lib.hid hlab
      have HVE := Lib.hid hV
      have HV : Hid (∀ z, Below w4.heap.size w4 z → Calls Try.prog 16 #[.agg y.arr.toList.toArray] z fun e w' => e = .returned (.bool V) ∧ Below z.heap.size z w') := by
        rw [hV]
        exact Lib.hid fun z hz => refValid_any y.l y.ad y.nd y.c z (hdy.below hz) hoy
      obtain ⟨M, hM⟩ : ∃ M, M = decide (y.l.equal x.l) := ⟨_, rfl⟩
      have HME := Lib.hid hM
      have HM9 : Hid (∀ z, Below w4.heap.size w4 z → Calls Try.prog 15 #[.agg y.arr.toList.toArray, .agg x.arr.toList.toArray] z fun e w' => e = .returned (.bool M) ∧ Below z.heap.size z w') := by
        rw [hM]
        exact Lib.hid fun z hz => refEqual_any y.l x.l y.ad x.ad y.nd x.nd y.c x.c z (hdy.below hz) (HDE.out.below hz) hoy.short
      have CDK : Hid (∀ z, Below w4.heap.size w4 z → z.cell? ⟨bL, oL + j * 19 + 1, none⟩ = some (.int .i64 y.l.dk)) := Lib.hid fun z hz => below_cell hz hbLw (r0 1 _ rfl)
      clear hcellR hcR hcp hdy hoy hye hrb hoki r0 hlab hV haL haR hik hM
      have hfk := fromK_step hjn (fun i => okI xs rd i && eqP xs x.l (d : Int) i)
      have hP : (okI xs rd j && eqP xs x.l (d : Int) j) = (rb && V && decide (y.l.dk = (d : Int)) && !DD && M) := by
        rw [HOKI.out, HDD.out, HME.out]
        unfold eqP
        rw [HLAB.out]
        simp only [Bool.and_assoc]
      simp only [hP] at hfk
      have HFK := Lib.hid hfk
      clear hfk hP
      refine wp_seq_k (fun KB hKB => ?_)
      refine wp_seq_k (fun KB2 hKB2 => ?_)
      refine Lin.begin ?_
      refine Lin.take 162 rfl rfl (by go_simp <;> with_reducible rfl) (by simp only [Act.put, List.setIfInBounds_toArray, List.set_cons_zero, List.set_cons_succ] <;> rfl) ?_
      refine Lin.take 163 (v := .bool true) rfl rfl (by have h1 := hj0; go_simp <;> with_reducible rfl) (by simp only [Act.put, List.setIfInBounds_toArray, List.set_cons_zero, List.set_cons_succ] <;> rfl) ?_
      refine Lin.done (hKB2 _ _ ?_)
      refine wp_cond_true rfl ?_
      refine wp_skip ?_
      refine hKB _ _ ?_
      clear hKB hKB2 KB KB2
      refine wp_seq_k (fun KC hKC => ?_)
      refine wp_block ?_
      refine wp_seq_k (fun KF hKF => ?_)
      have hKK := Lib.hid hKF
      clear hKF
      have HB := Lib.hid (show Below wk.heap.size wk wk.drew from (Below.refl _ _).drew)
      have hs : wk.heap.size ≤ wk.drew.heap.size := Nat.le_refl _
      refine Rest.begin 36 (by kernel_rfl) (by kernel_rfl) ?_
      refine Rest.take 0 166 rfl (by kernel_rfl) (by kernel_rfl) (by kernel_rfl) (fun _ _ _ h => h) (by rfl) rfl (by intro x hx; go_simp <;> with_reducible rfl) (by simp only [Act.put, List.setIfInBounds_toArray, List.set_cons_zero, List.set_cons_succ] <;> rfl) ?_
      refine Rest.take 1 167 rfl (by kernel_rfl) (by kernel_rfl) (by kernel_rfl) (fun _ _ _ h => h) (by rfl) rfl (by intro x hx; go_simp <;> with_reducible rfl) (by simp only [Act.put, List.setIfInBounds_toArray, List.set_cons_zero, List.set_cons_succ] <;> rfl) ?_
      refine Rest.take 2 168 (v := .pointer (some ⟨bR, oR + j, none⟩)) rfl (by kernel_rfl) (by kernel_rfl) (by kernel_rfl) (fun _ _ _ h => h) (by rfl) rfl (by intro x hx; have h1 := hjI; have h2 := hj0; have h3 := hcapR; go_simp <;> with_reducible rfl) (by simp only [Act.put, List.setIfInBounds_toArray, List.set_cons_zero, List.set_cons_succ] <;> rfl) ?_
      refine Rest.take 3 169 rfl (by kernel_rfl) (by kernel_rfl) (by kernel_rfl) (fun _ _ _ h => h) (by rfl) rfl (by intro x hx; have hc := CR.out x (HBK.out.trans ((later HB hs hx).mono HBK.out.size)); go_simp <;> with_reducible rfl) (by simp only [Act.put, List.setIfInBounds_toArray, List.set_cons_zero, List.set_cons_succ] <;> rfl) ?_
      refine Rest.bool 4 170 rfl (by kernel_rfl) (by kernel_rfl) (by kernel_rfl) (fun _ _ _ h => h) (by rfl) rfl (by intro x hx; go_simp <;> with_reducible rfl) ?_
      intro B170 hB170 aa ha; simp only [Act.put, List.setIfInBounds_toArray, List.set_cons_zero, List.set_cons_succ] at ha; subst ha; replace hB170 := Lib.hid hB170
      refine Rest.may 5 171 B170 rfl (by kernel_rfl) (by kernel_rfl) (by kernel_rfl) (fun _ _ _ _ h => h) (by cases B170 <;> kernel_rfl) rfl (by intro hc x hx; (try simp only [hc, gv_true]); go_simp <;> with_reducible rfl) (by simp only [Act.put, List.setIfInBounds_toArray, List.set_cons_zero, List.set_cons_succ] <;> rfl) ?_
      refine Rest.may 6 172 B170 rfl (by kernel_rfl) (by kernel_rfl) (by kernel_rfl) (fun _ _ _ _ h => h) (by cases B170 <;> kernel_rfl) rfl (by intro hc x hx; (try simp only [hc, gv_true]); go_simp <;> with_reducible rfl) (by simp only [Act.put, List.setIfInBounds_toArray, List.set_cons_zero, List.set_cons_succ] <;> rfl) ?_
      refine Rest.may 7 173 B170 (v := .pointer (some ⟨bL, oL + j * 19, none⟩)) rfl (by kernel_rfl) (by kernel_rfl) (by kernel_rfl) (fun _ _ _ _ h => h) (by cases B170 <;> kernel_rfl) rfl (by intro hc x hx; (try simp only [hc, gv_true]); have h1 := hjI; have h2 := hj0; have h3 := hcapL; go_simp <;> with_reducible rfl) (by simp only [Act.put, List.setIfInBounds_toArray, List.set_cons_zero, List.set_cons_succ] <;> rfl) ?_
      refine Rest.mayMid 8 174 B170 rfl (by kernel_rfl) (by kernel_rfl) (by kernel_rfl) 32 _ bL (oL + j * 19) y.arr.toList _ (fun _ _ _ _ h => h) (by cases B170 <;> kernel_rfl) rfl (fun hc => by (try simp only [hc, gv_true]); rfl) (fun x hx => rangeAt_below RI.out (HBK.out.trans ((later HB hs hx).mono HBK.out.size)) hbLw) Try.underlying32 rfl (by kernel_rfl) rfl (by simp only [Act.put, List.setIfInBounds_toArray, List.set_cons_zero, List.set_cons_succ] <;> rfl) ?_
      refine Rest.mayCall 9 175 B170 (v := .bool V) rfl (by kernel_rfl) (by cases B170 <;> kernel_rfl) rfl (by intro hc; (try simp only [hc, gv_true]); go_simp <;> (first | exact ⟨rfl, rfl⟩ | rfl)) (fun hc => HV.out _ (HBK.out.trans (HB.out.mono HBK.out.size))) (by simp only [Act.put, List.setIfInBounds_toArray, List.set_cons_zero, List.set_cons_succ] <;> rfl) ?_
      intro wa hb
      have HB := Lib.hid (HB.out.trans (hb.mono hs))
      have hs := Nat.le_trans hs hb.size
      clear hb
      refine Rest.and 10 176 170 175 rfl (by kernel_rfl) (by kernel_rfl) (by kernel_rfl) (fun _ _ _ _ h => h) (by rfl) rfl rfl rfl rfl ?_
      intro B176 hB176 aa ha; simp only [Act.put, List.setIfInBounds_toArray, List.set_cons_zero, List.set_cons_succ] at ha; subst ha; replace hB176 := Lib.hid hB176
      refine Rest.take 11 177 rfl (by kernel_rfl) (by kernel_rfl) (by kernel_rfl) (fun _ _ _ h => h) (by rfl) rfl (by intro x hx; go_simp <;> with_reducible rfl) (by simp only [Act.put, List.setIfInBounds_toArray, List.set_cons_zero, List.set_cons_succ] <;> rfl) ?_
      refine Rest.may 12 178 B176 rfl (by kernel_rfl) (by kernel_rfl) (by kernel_rfl) (fun _ _ _ _ h => h) (by cases B176 <;> kernel_rfl) rfl (by intro hc x hx; (try simp only [hc, gv_true]); go_simp <;> with_reducible rfl) (by simp only [Act.put, List.setIfInBounds_toArray, List.set_cons_zero, List.set_cons_succ] <;> rfl) ?_
      refine Rest.may 13 179 B176 rfl (by kernel_rfl) (by kernel_rfl) (by kernel_rfl) (fun _ _ _ _ h => h) (by cases B176 <;> kernel_rfl) rfl (by intro hc x hx; (try simp only [hc, gv_true]); go_simp <;> with_reducible rfl) (by simp only [Act.put, List.setIfInBounds_toArray, List.set_cons_zero, List.set_cons_succ] <;> rfl) ?_
      refine Rest.may 14 180 B176 (v := .pointer (some ⟨bL, oL + j * 19, none⟩)) rfl (by kernel_rfl) (by kernel_rfl) (by kernel_rfl) (fun _ _ _ _ h => h) (by cases B176 <;> kernel_rfl) rfl (by intro hc x hx; (try simp only [hc, gv_true]); have h1 := hjI; have h2 := hj0; have h3 := hcapL; go_simp <;> with_reducible rfl) (by simp only [Act.put, List.setIfInBounds_toArray, List.set_cons_zero, List.set_cons_succ] <;> rfl) ?_
      refine Rest.may 15 181 B176 rfl (by kernel_rfl) (by kernel_rfl) (by kernel_rfl) (fun _ _ _ _ h => h) (by cases B176 <;> kernel_rfl) rfl (by intro hc x hx; (try simp only [hc, gv_true]); go_simp <;> with_reducible rfl) (by simp only [Act.put, List.setIfInBounds_toArray, List.set_cons_zero, List.set_cons_succ] <;> rfl) ?_
      refine Rest.may 16 182 B176 rfl (by kernel_rfl) (by kernel_rfl) (by kernel_rfl) (fun _ _ _ _ h => h) (by cases B176 <;> kernel_rfl) rfl (by intro hc x hx; (try simp only [hc, gv_true]); have hc := CDK.out x (HBK.out.trans ((later HB hs hx).mono HBK.out.size)); go_simp <;> with_reducible rfl) (by simp only [Act.put, List.setIfInBounds_toArray, List.set_cons_zero, List.set_cons_succ] <;> rfl) ?_
      refine Rest.may 17 183 B176 rfl (by kernel_rfl) (by kernel_rfl) (by kernel_rfl) (fun _ _ _ _ h => h) (by cases B176 <;> kernel_rfl) rfl (by intro hc x hx; (try simp only [hc, gv_true]); go_simp <;> with_reducible rfl) (by simp only [Act.put, List.setIfInBounds_toArray, List.set_cons_zero, List.set_cons_succ] <;> rfl) ?_
      refine Rest.may 18 184 B176 (v := .bool (decide (y.l.dk = (d : Int)))) rfl (by kernel_rfl) (by kernel_rfl) (by kernel_rfl) (fun _ _ _ _ h => h) (by cases B176 <;> kernel_rfl) rfl (by intro hc x hx; (try simp only [hc, gv_true]); go_simp <;> rfl) (by simp only [Act.put, List.setIfInBounds_toArray, List.set_cons_zero, List.set_cons_succ] <;> rfl) ?_
      refine Rest.and 19 185 177 184 rfl (by kernel_rfl) (by kernel_rfl) (by kernel_rfl) (fun _ _ _ _ h => h) (by rfl) rfl rfl rfl rfl ?_
      intro B185 hB185 aa ha; simp only [Act.put, List.setIfInBounds_toArray, List.set_cons_zero, List.set_cons_succ] at ha; subst ha; replace hB185 := Lib.hid hB185
      refine Rest.take 20 186 rfl (by kernel_rfl) (by kernel_rfl) (by kernel_rfl) (fun _ _ _ h => h) (by rfl) rfl (by intro x hx; go_simp <;> with_reducible rfl) (by simp only [Act.put, List.setIfInBounds_toArray, List.set_cons_zero, List.set_cons_succ] <;> rfl) ?_
      refine Rest.may 21 187 B185 rfl (by kernel_rfl) (by kernel_rfl) (by kernel_rfl) (fun _ _ _ _ h => h) (by cases B185 <;> kernel_rfl) rfl (by intro hc x hx; (try simp only [hc, gv_true]); go_simp <;> with_reducible rfl) (by simp only [Act.put, List.setIfInBounds_toArray, List.set_cons_zero, List.set_cons_succ] <;> rfl) ?_
      refine Rest.may 22 188 B185 (v := .slice x.ad x.nd x.c) rfl (by kernel_rfl) (by kernel_rfl) (by kernel_rfl) (fun _ _ _ _ h => h) (by cases B185 <;> kernel_rfl) rfl (by intro hc x hx; (try simp only [hc, gv_true]); obtain ⟨k0, k1, k2, k3, k4, k5, k6, k7, k8, k9, k10, k11, k12, k13, k14, k15, k16, k17, k18⟩ := HLQ.out.below (HBK.out.trans ((later HB hs hx).mono HBK.out.size)) hqr; go_simp <;> with_reducible rfl) (by simp only [Act.put, List.setIfInBounds_toArray, List.set_cons_zero, List.set_cons_succ] <;> rfl) ?_
      refine Rest.may 23 189 B185 rfl (by kernel_rfl) (by kernel_rfl) (by kernel_rfl) (fun _ _ _ _ h => h) (by cases B185 <;> kernel_rfl) rfl (by intro hc x hx; (try simp only [hc, gv_true]); go_simp <;> with_reducible rfl) (by simp only [Act.put, List.setIfInBounds_toArray, List.set_cons_zero, List.set_cons_succ] <;> rfl) ?_
      refine Rest.may 24 190 B185 (v := .pointer (some ⟨bD, oD + d, none⟩)) rfl (by kernel_rfl) (by kernel_rfl) (by kernel_rfl) (fun _ _ _ _ h => h) (by cases B185 <;> kernel_rfl) rfl (by intro hc x hx; (try simp only [hc, gv_true]); have h9 := HAD.out; have h1 := hdn; have h2 := hd0; have h3 := HXC.out; go_simp <;> with_reducible rfl) (by simp only [Act.put, List.setIfInBounds_toArray, List.set_cons_zero, List.set_cons_succ] <;> rfl) ?_
      refine Rest.may 25 191 B185 (v := .bool (inDead x.l.dead (d : Int))) rfl (by kernel_rfl) (by kernel_rfl) (by kernel_rfl) (fun _ _ _ _ h => h) (by cases B185 <;> kernel_rfl) rfl (by intro hc x hx; (try simp only [hc, gv_true]); have hc := CDD.out x (HBK.out.trans ((later HB hs hx).mono HBK.out.size)); go_simp <;> with_reducible rfl) (by simp only [Act.put, List.setIfInBounds_toArray, List.set_cons_zero, List.set_cons_succ] <;> rfl) ?_
      refine Rest.may 26 192 B185 (v := .bool (!inDead x.l.dead (d : Int))) rfl (by kernel_rfl) (by kernel_rfl) (by kernel_rfl) (fun _ _ _ _ h => h) (by cases B185 <;> kernel_rfl) rfl (by intro hc x hx; (try simp only [hc, gv_true]); go_simp <;> with_reducible rfl) (by simp only [Act.put, List.setIfInBounds_toArray, List.set_cons_zero, List.set_cons_succ] <;> rfl) ?_
      refine Rest.and 27 193 186 192 rfl (by kernel_rfl) (by kernel_rfl) (by kernel_rfl) (fun _ _ _ _ h => h) (by rfl) rfl rfl rfl rfl ?_
      intro B193 hB193 aa ha; simp only [Act.put, List.setIfInBounds_toArray, List.set_cons_zero, List.set_cons_succ] at ha; subst ha; replace hB193 := Lib.hid hB193
      refine Rest.take 28 194 rfl (by kernel_rfl) (by kernel_rfl) (by kernel_rfl) (fun _ _ _ h => h) (by rfl) rfl (by intro x hx; go_simp <;> with_reducible rfl) (by simp only [Act.put, List.setIfInBounds_toArray, List.set_cons_zero, List.set_cons_succ] <;> rfl) ?_
      refine Rest.may 29 195 B193 rfl (by kernel_rfl) (by kernel_rfl) (by kernel_rfl) (fun _ _ _ _ h => h) (by cases B193 <;> kernel_rfl) rfl (by intro hc x hx; (try simp only [hc, gv_true]); go_simp <;> with_reducible rfl) (by simp only [Act.put, List.setIfInBounds_toArray, List.set_cons_zero, List.set_cons_succ] <;> rfl) ?_
      refine Rest.may 30 196 B193 rfl (by kernel_rfl) (by kernel_rfl) (by kernel_rfl) (fun _ _ _ _ h => h) (by cases B193 <;> kernel_rfl) rfl (by intro hc x hx; (try simp only [hc, gv_true]); go_simp <;> with_reducible rfl) (by simp only [Act.put, List.setIfInBounds_toArray, List.set_cons_zero, List.set_cons_succ] <;> rfl) ?_
      refine Rest.may 31 197 B193 (v := .pointer (some ⟨bL, oL + j * 19, none⟩)) rfl (by kernel_rfl) (by kernel_rfl) (by kernel_rfl) (fun _ _ _ _ h => h) (by cases B193 <;> kernel_rfl) rfl (by intro hc x hx; (try simp only [hc, gv_true]); have h1 := hjI; have h2 := hj0; have h3 := hcapL; go_simp <;> with_reducible rfl) (by simp only [Act.put, List.setIfInBounds_toArray, List.set_cons_zero, List.set_cons_succ] <;> rfl) ?_
      refine Rest.mayMid 32 198 B193 rfl (by kernel_rfl) (by kernel_rfl) (by kernel_rfl) 32 _ bL (oL + j * 19) y.arr.toList _ (fun _ _ _ _ h => h) (by cases B193 <;> kernel_rfl) rfl (fun hc => by (try simp only [hc, gv_true]); rfl) (fun x hx => rangeAt_below RI.out (HBK.out.trans ((later HB hs hx).mono HBK.out.size)) hbLw) Try.underlying32 rfl (by kernel_rfl) rfl (by simp only [Act.put, List.setIfInBounds_toArray, List.set_cons_zero, List.set_cons_succ] <;> rfl) ?_
      refine Rest.mayMid 33 199 B193 rfl (by kernel_rfl) (by kernel_rfl) (by kernel_rfl) 32 _ q 0 x.arr.toList _ (fun _ _ _ _ h => h) (by cases B193 <;> kernel_rfl) rfl (fun hc => by (try simp only [hc, gv_true]); rfl) (fun z hz => (HLQ.out.below (HBK.out.trans ((later HB hs hz).mono HBK.out.size)) hqr).range) Try.underlying32 rfl (by kernel_rfl) rfl (by simp only [Act.put, List.setIfInBounds_toArray, List.set_cons_zero, List.set_cons_succ] <;> rfl) ?_
      refine Rest.mayCall 34 200 B193 (v := .bool M) rfl (by kernel_rfl) (by cases B193 <;> kernel_rfl) rfl (by intro hc; (try simp only [hc, gv_true]); go_simp <;> (first | exact ⟨rfl, rfl⟩ | rfl)) (fun hc => HM9.out _ (HBK.out.trans (HB.out.mono HBK.out.size))) (by simp only [Act.put, List.setIfInBounds_toArray, List.set_cons_zero, List.set_cons_succ] <;> rfl) ?_
      intro wn hb
      have HB := Lib.hid (HB.out.trans (hb.mono hs))
      have hs := Nat.le_trans hs hb.size
      clear hb
      refine Rest.and 35 201 194 200 rfl (by kernel_rfl) (by kernel_rfl) (by kernel_rfl) (fun _ _ _ _ h => h) (by rfl) rfl rfl rfl rfl ?_
      intro B201 hB201 aa ha; simp only [Act.put, List.setIfInBounds_toArray, List.set_cons_zero, List.set_cons_succ] at ha; subst ha; replace hB201 := Lib.hid hB201
      refine Rest.done (by kernel_rfl) ?_
      have HOK3 := Lib.hid (owns_belowI HROW.out HB.out)
      have HBK3 := Lib.hid (HBK.out.trans (HB.out.mono HBK.out.size))
      have hval : B201 = (rb && V && decide (y.l.dk = (d : Int)) && !DD && M) := by rw [hB201.out, hB193.out, hB185.out, hB176.out, hB170.out, HDD.out]
      rw [← hval] at HFK
      clear hval
      refine hKK.out _ _ ?_
      refine wp_cond_split rfl (fun ht => ?_) (fun hf => ?_)
      · rw [if_pos ht] at HFK
        clear ht
        refine Lin.begin ?_
        refine Lin.take 202 rfl rfl (by go_simp <;> with_reducible rfl) (by simp only [Act.put, List.setIfInBounds_toArray, List.set_cons_zero, List.set_cons_succ] <;> rfl) ?_
        refine Lin.take 203 rfl rfl (by go_simp <;> with_reducible rfl) (by simp only [Act.put, List.setIfInBounds_toArray, List.set_cons_zero, List.set_cons_succ] <;> rfl) ?_
        refine Lin.take 204 rfl rfl (by go_simp <;> with_reducible rfl) (by simp only [Act.put, List.setIfInBounds_toArray, List.set_cons_zero, List.set_cons_succ] <;> rfl) ?_
        refine Lin.take 205 (v := .pointer (some ⟨gA, d, none⟩)) rfl rfl (by have h1 := hdI; have h2 := hd0; go_simp <;> (first | with_reducible rfl | simp)) (by simp only [Act.put, List.setIfInBounds_toArray, List.set_cons_zero, List.set_cons_succ] <;> rfl) ?_
        refine Lin.store (w' := wn.setCell ⟨gA, d, none⟩ (.int .i64 (j : Int))) rfl (by have hc := HOK3.out.cellAt d (by omega); rw [refS_get hdm] at hc; have hf := HOK3.out.frozenAt d; go_simp <;> (first | exact ⟨rfl, rfl⟩ | rfl)) (by simp only [Act.put] <;> rfl) ?_
        intro z9 hz9
        have HO9 : Hid (z9.ownsRow gA 3 1 (.slice (some ⟨gA, 0, none⟩) m m) m (zc ((refP xs x.l (candL xs rd) m d).set d (j : Int)))) := by
          have h1 := (HOK3.out.stored d (.int .i64 (j : Int))).1
          rw [zc_set, List.set_set] at h1
          rw [hz9]
          exact Lib.hid h1
        have HB9 : Hid (Below w4.heap.size w4 z9) := by rw [hz9]; exact Lib.hid (HBK3.out.setCell (p := ⟨gA, d, none⟩) (by rw [HGA.out]; exact Nat.le_refl _) _)
        clear hz9
        refine Lin.end ?_
        (try simp only [Exit.inBlock, Exit.then])
        refine hKC _ _ ?_
        go_wp2
        go_roundw
        case rel => exact ⟨j, (j : Int) - 1, by go_num, rfl, by omega, by rw [HFK.out]; exact HO9, HB9⟩
        case measure => first | (simp [intOf]; omega) | simp [intOf]
      · rw [if_neg (by rw [hf]; simp)] at HFK
        clear hf
        refine wp_skip ?_
        (try simp only [Exit.inBlock, Exit.then])
        refine hKC _ _ ?_
        go_wp2
        go_roundw
        case rel => exact ⟨j, (j : Int) - 1, by go_num, rfl, by omega, by rw [HFK.out]; exact HOK3, HBK3⟩
        case measure => first | (simp [intOf]; omega) | simp [intOf]
    obtain rfl : k = 0 := by omega
    obtain rfl : i = -1 := by omega
    clear hik hkn hk
    go_wp2
    refine HKO.out _ _ ?_
    go_wp2
    go_roundw
    case rel =>
      refine ⟨d + 1, by go_num, by omega, ?_, HBK⟩
      have h1 := HROW.out
      rw [fromK_all, fromK_all, ← HLX.out, ← candL_P] at h1
      have h2 := refP_next (xs := xs) (e := x.l) (l := candL xs rd) hdm
      unfold atD at h2
      rw [h2] at h1
      exact Lib.hid h1
    case measure => first | (simp [intOf]; omega) | simp [intOf]
  have hdI : ¬ (d : Int) < m := by omega
  obtain rfl : m = d := by omega
  go_wp2
  refine HKL.out _ _ ?_
  clear HKL
  obtain ⟨w7, hw7⟩ : ∃ w7, w7 = wr := ⟨_, rfl⟩
  subst hw7
  have HB7 := HBW
  have hs7 := HBW.out.size
  obtain ⟨zs, hzs⟩ : ∃ zs, zs = refP xs x.l (candL xs rd) m m := ⟨_, rfl⟩
  rw [← hzs] at HO
  have hzl : zs.length = m := by have := HO.out.1; rw [zc_length] at this; omega
  have HZL := Lib.hid hzl
  have HCT := Lib.hid (refCount_any zs _ m m w7 (Sl.of_owns HO.out (zc_one _)).2 (by omega))
  have hE := electL_some (rd := rd) (zs := zs) (by have := HLX.out; have := HLR.out; omega) (by have := HLX.out; omega) HBST.out (by rw [hzl, HLB.out, HM.out]; rfl) (fun d hd => by
    rw [HLB.out, HM.out] at hd
    rw [HLB.out, hzs]
    exact refP_full (by omega))
  rw [HLB.out] at hE
  have HEL := Lib.hid hE
  obtain ⟨ng, hng⟩ : ∃ ng, ng = negs zs := ⟨_, rfl⟩
  rw [← hng] at HCT HEL
  clear hzs hzl hE hng hdm hdm' hdI HBW HO5
  refine wp_seq_k (fun K1 hK1 => ?_)
  refine wp_seq_k (fun K hK => ?_)
  refine Lin.begin ?_
  refine Lin.take 206 rfl rfl (by go_simp <;> with_reducible rfl) (by simp only [Act.put, List.setIfInBounds_toArray, List.set_cons_zero, List.set_cons_succ] <;> rfl) ?_
  refine Lin.enter 207 rfl rfl (by go_simp <;> (first | exact ⟨rfl, rfl⟩ | rfl)) HCT.out (by simp only [Act.put, List.setIfInBounds_toArray, List.set_cons_zero, List.set_cons_succ] <;> rfl) ?_
  intro w8 hb8
  have HB8' := Lib.hid hb8
  have HB8 := Lib.hid (HB7.out.trans (hb8.mono hs7))
  have hs8 := HB8.out.size
  clear hb8
  refine Lin.bool 208 rfl rfl (by go_simp <;> with_reducible rfl) ?_
  intro B208 hB208 aa ha; simp only [Act.put, List.setIfInBounds_toArray, List.set_cons_zero, List.set_cons_succ] at ha; subst ha
  refine Lin.done (hK _ _ ?_)
  clear hK K
  have HR8 : Hid (w8.heap[g]? = some (.cells (lbz.arrv none 0 0) 32 (0, 0))) := by rw [← HR1.out]; exact Lib.hid ((HB4.out.trans (HB8.out.mono HB4.out.size)).block g (by omega))
  refine wp_cond_split rfl (fun ht => ?_) (fun hf => ?_)
  · have hE : electL xs rd = (lbz, [], 12) := by rw [HEL.out, if_pos (by rw [hB208] at ht; simp at ht; omega)]
    clear ht hB208
    refine wp_seq_k (fun KF hKF => ?_)
    refine Lin.begin ?_
    refine Lin.take 209 (v := .agg (lbz.arrv none 0 0)) rfl rfl (by go_simp <;> rfl) (by simp only [Act.put, List.setIfInBounds_toArray, List.set_cons_zero, List.set_cons_succ] <;> rfl) ?_
    refine W_store_row 32 g (lbz.arrv none 0 0) 32 (lbz.arrv none 0 0) rfl rfl HR8.out (by kernel_rfl) rfl (arrv_one _ _ _ _) ?_
    simp only [Act.put]
    refine Lin.take 5 rfl rfl (by go_simp <;> with_reducible rfl) (by simp only [Act.put, List.setIfInBounds_toArray, List.set_cons_zero, List.set_cons_succ] <;> rfl) ?_
    refine Lin.take 6 rfl rfl (by go_simp <;> with_reducible rfl) (by simp only [Act.put, List.setIfInBounds_toArray, List.set_cons_zero, List.set_cons_succ] <;> rfl) ?_
    refine Lin.done (hKF _ _ ?_)
    refine wp_ret ?_
    (try simp only [Exit.then])
    refine bodyPost_ret (results_row2 rfl _ _ g 32 (lbz.arrv none 0 0) _ rfl (setRow_at HR8.out) Try.underlying32 rfl (by kernel_rfl)) rfl ?_
    rw [hE]
    exact ⟨none, 0, 0, none, 0, 0, rfl, Sl.nilv _ _, Sl.nilv _ _, below_setRow (HB1.out.trans ((HB4.out.trans (HB8.out.mono HB4.out.size)).mono HB1.out.size)) (by have := HG.out; omega) _⟩
  have hE : electL xs rd = (x.l, zs, 0) := by rw [HEL.out, if_neg (by rw [hB208] at hf; simp at hf; omega)]
  have HE := Lib.hid hE
  clear hf hB208 hE HEL
  refine wp_skip ?_
  refine hK1 _ _ ?_
  clear hK1 K1
  have HQ8 : Hid (w8.heap[q]? = some (.cells x.arr 32 (0, 0))) := by rw [← HR4.out]; exact Lib.hid (HB8.out.block q (by omega))
  refine wp_seq_k (fun K hK => ?_)
  refine Lin.begin ?_
  refine Lin.mid 210 true 32 _ q 0 x.arr.toList _ (by kernel_rfl) rfl rfl (fun _ => rfl) (LbAt.of HQ8.out).range Try.underlying32 rfl (by kernel_rfl) (by simp only [Act.put, List.setIfInBounds_toArray, List.set_cons_zero, List.set_cons_succ] <;> rfl) ?_
  refine Lin.take 211 rfl rfl (by go_simp <;> with_reducible rfl) (by simp only [Act.put, List.setIfInBounds_toArray, List.set_cons_zero, List.set_cons_succ] <;> rfl) ?_
  refine W_store_row 32 g x.arr 32 (lbz.arrv none 0 0) rfl rfl HR8.out (by kernel_rfl) rfl (arrv_one _ _ _ _) ?_
  simp only [Act.put]
  refine Lin.take 5 rfl rfl (by go_simp <;> with_reducible rfl) (by simp only [Act.put, List.setIfInBounds_toArray, List.set_cons_zero, List.set_cons_succ] <;> rfl) ?_
  refine Lin.take 6 rfl rfl (by go_simp <;> with_reducible rfl) (by simp only [Act.put, List.setIfInBounds_toArray, List.set_cons_zero, List.set_cons_succ] <;> rfl) ?_
  refine Lin.done (hK _ _ ?_)
  refine wp_ret ?_
  (try simp only [Exit.then])
  refine bodyPost_ret (results_row2 rfl _ _ g 32 x.arr _ rfl (setRow_at HR8.out) Try.underlying32 rfl (by kernel_rfl)) rfl ?_
  rw [HE.out]
  have hbel : Below w.heap.size w (w8.setRow g x.arr) := below_setRow (HB1.out.trans ((HB4.out.trans (HB8.out.mono HB4.out.size)).mono HB1.out.size)) (by have := HG.out; omega) _
  refine ⟨x.ad, x.nd, x.c, _, _, _, rfl, HDX0.out.below hbel, ?_, hbel⟩
  refine (Sl.of_owns (World.ownsRow.kept (owns_belowI HO.out HB8'.out) (grownBy_setRow _ g _) (.inr ?_)) (zc_one _)).2
  intro h
  simp [Value.ownBlock] at h
  have := HGA.out
  have h3 := HQ.out
  omega

end Go.Proofs.Ytgpfjinkmagelaa
