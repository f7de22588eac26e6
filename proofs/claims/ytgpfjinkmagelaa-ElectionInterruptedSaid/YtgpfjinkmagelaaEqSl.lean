/- slices.Equal of two slices of bools: whether the contents are the same. (Printed by eqsl.py.) -/
import Derived.Test.YtgpfjinkmagelaaLbl
set_option linter.unusedVariables false
set_option linter.unusedSimpArgs false
namespace Go.Proofs.Ytgpfjinkmagelaa
open Go Go.RowKit Go.Lib

set_option maxRecDepth 100000 in
set_option maxHeartbeats 1600000 in
theorem eqBools_any (l m : List Bool) (ad ad' : Option Addr) (nd nd' c c' : Nat) (w : World) (h : Sl w 1 ad nd c (bb l)) (h' : Sl w 1 ad' nd' c' (bb m)) (hs : l.length ≤ 1000000) :
    Calls Try.prog 34 #[.slice ad nd c, .slice ad' nd' c'] w fun e w' => e = .returned (.bool (decide (l = m))) ∧ Below w.heap.size w w' := by
  have hn : nd = l.length := by have := h.len; rw [bb_length, Nat.mul_one] at this; omega
  have hn' : nd' = m.length := by have := h'.len; rw [bb_length, Nat.mul_one] at this; omega
  have hcap1 := h.cap
  have hcap2 := h'.cap
  have HH := Lib.hid h
  have HH' := Lib.hid h'
  clear h h'
  go_enter Try.func34, Try.ntmps34
  by_cases hne : nd = nd'
  · subst hne
    have HN := Lib.hid hn
    have HN' := Lib.hid hn'
    clear hn hn'
    go_wp2
    go_loopw [13] (fun iv wr => ∃ (i : Nat), iv = .int .i64 (i : Int) ∧ i ≤ nd ∧ l.take i = m.take i ∧ Hid (Below w.heap.size w wr)) (fun iv _ => nd - (intOf iv).toNat)
    case atStart => exact ⟨0, rfl, by omega, rfl, Lib.hid (Below.refl _ _)⟩
    case round =>
      obtain ⟨i, rfl, hin, htk, hB⟩ := hrel
      have HT := Lib.hid htk
      clear htk
      by_cases hi : i < nd
      · have hiI : (i : Int) < nd := by omega
        have hiI2 : (i : Int) < nd := by omega
        have hi0 : (0 : Int) ≤ (i : Int) := by omega
        have hik : i < l.length := by have := HN.out; omega
        have him : i < m.length := by have := HN'.out; omega
        have hnum : nd ≤ 1000000 := by have := HN.out; omega
        obtain ⟨b, off, ha, hcell⟩ := HH.out.at (k := i) (by rw [bb_length]; exact hik)
        obtain ⟨b', off', ha', hcell'⟩ := HH'.out.at (k := i) (by rw [bb_length]; exact him)
        have CA : Hid (∀ z, Below w.heap.size w z → z.cell? ⟨b, off + i, none⟩ = some (.bool l[i])) := by
          refine Lib.hid fun z hz => ?_
          obtain ⟨b2, off2, ha2, hc2⟩ := (HH.out.below hz).at (k := i) (by rw [bb_length]; exact hik)
          rw [ha] at ha2
          obtain ⟨rfl, rfl⟩ : b = b2 ∧ off = off2 := by simpa using ha2
          have := hc2 i (by rw [bb_length]; exact hik)
          simpa only [bb, List.getElem_map] using this
        have CB : Hid (∀ z, Below w.heap.size w z → z.cell? ⟨b', off' + i, none⟩ = some (.bool m[i])) := by
          refine Lib.hid fun z hz => ?_
          obtain ⟨b2, off2, ha2, hc2⟩ := (HH'.out.below hz).at (k := i) (by rw [bb_length]; exact him)
          rw [ha'] at ha2
          obtain ⟨rfl, rfl⟩ : b' = b2 ∧ off' = off2 := by simpa using ha2
          have := hc2 i (by rw [bb_length]; exact him)
          simpa only [bb, List.getElem_map] using this
        clear hcell hcell'
        subst ha ha'
        have HB : Hid (Below w.heap.size w wr.drew) := Lib.hid hB.out.drew
        have hs : w.heap.size ≤ wr.drew.heap.size := HB.out.size
        go_wp2
        refine Rest.begin 9 (by kernel_rfl) (by kernel_rfl) ?_
        refine Rest.take 0 16 rfl (by kernel_rfl) (by kernel_rfl) (by kernel_rfl) (fun _ _ _ h => h) (by rfl) (by rfl) (by intro x hx; go_simp <;> with_reducible rfl) (by simp only [Act.put, List.setIfInBounds_toArray, List.set_cons_zero, List.set_cons_succ] <;> rfl) ?_
        refine Rest.take 1 17 rfl (by kernel_rfl) (by kernel_rfl) (by kernel_rfl) (fun _ _ _ h => h) (by rfl) (by rfl) (by intro x hx; go_simp <;> with_reducible rfl) (by simp only [Act.put, List.setIfInBounds_toArray, List.set_cons_zero, List.set_cons_succ] <;> rfl) ?_
        refine Rest.take 2 18 rfl (by kernel_rfl) (by kernel_rfl) (by kernel_rfl) (fun _ _ _ h => h) (by rfl) (by rfl) (by intro x hx; have h1 := hiI; have h2 := hi0; have h3 := hcap1; go_simp <;> with_reducible rfl) (by simp only [Act.put, List.setIfInBounds_toArray, List.set_cons_zero, List.set_cons_succ] <;> rfl) ?_
        refine Rest.take 3 19 rfl (by kernel_rfl) (by kernel_rfl) (by kernel_rfl) (fun _ _ _ h => h) (by rfl) (by rfl) (by intro x hx; have hc := CA.out x (later HB hs hx); go_simp <;> with_reducible rfl) (by simp only [Act.put, List.setIfInBounds_toArray, List.set_cons_zero, List.set_cons_succ] <;> rfl) ?_
        refine Rest.take 4 20 rfl (by kernel_rfl) (by kernel_rfl) (by kernel_rfl) (fun _ _ _ h => h) (by rfl) (by rfl) (by intro x hx; go_simp <;> with_reducible rfl) (by simp only [Act.put, List.setIfInBounds_toArray, List.set_cons_zero, List.set_cons_succ] <;> rfl) ?_
        refine Rest.take 5 21 rfl (by kernel_rfl) (by kernel_rfl) (by kernel_rfl) (fun _ _ _ h => h) (by rfl) (by rfl) (by intro x hx; go_simp <;> with_reducible rfl) (by simp only [Act.put, List.setIfInBounds_toArray, List.set_cons_zero, List.set_cons_succ] <;> rfl) ?_
        refine Rest.take 6 22 rfl (by kernel_rfl) (by kernel_rfl) (by kernel_rfl) (fun _ _ _ h => h) (by rfl) (by rfl) (by intro x hx; have h1 := hiI2; have h2 := hi0; have h3 := hcap2; go_simp <;> with_reducible rfl) (by simp only [Act.put, List.setIfInBounds_toArray, List.set_cons_zero, List.set_cons_succ] <;> rfl) ?_
        refine Rest.take 7 23 rfl (by kernel_rfl) (by kernel_rfl) (by kernel_rfl) (fun _ _ _ h => h) (by rfl) (by rfl) (by intro x hx; have hc := CB.out x (later HB hs hx); go_simp <;> with_reducible rfl) (by simp only [Act.put, List.setIfInBounds_toArray, List.set_cons_zero, List.set_cons_succ] <;> rfl) ?_
        refine Rest.take 8 24 rfl (by kernel_rfl) (by kernel_rfl) (by kernel_rfl) (fun _ _ _ h => h) (by rfl) (by rfl) (by intro x hx; go_simp <;> with_reducible rfl) (by simp only [Act.put, List.setIfInBounds_toArray, List.set_cons_zero, List.set_cons_succ] <;> rfl) ?_
        refine Rest.done (by kernel_rfl) ?_
        go_wp2
        · go_ret
          have hlm : l ≠ m := by
            rintro rfl
            simp at *
          rw [decide_eq_false hlm]
          exact ⟨rfl, HB.out⟩
        · go_roundw
          case rel =>
            refine ⟨i + 1, by go_num, by omega, ?_, HB⟩
            rw [List.take_succ_eq_append_getElem hik, List.take_succ_eq_append_getElem him, HT.out]
            congr 2
            simp_all
          case measure => simp [intOf]; omega
      · have hiI : ¬ (i : Int) < nd := by omega
        obtain rfl : nd = i := by omega
        go_wp2
        go_ret
        have hlm : l = m := by
          have h1 := HN.out
          have h2 := HN'.out
          have h3 := HT.out
          rwa [List.take_of_length_le (by omega), List.take_of_length_le (by omega)] at h3
        rw [decide_eq_true hlm]
        exact ⟨rfl, hB.out⟩
  · have hneI : ¬ (nd : Int) = nd' := by omega
    go_wp2
    go_ret
    have hlm : l ≠ m := by
      rintro rfl
      exact hne (by omega)
    rw [decide_eq_false hlm]
    exact ⟨rfl, Below.refl _ _⟩

end Go.Proofs.Ytgpfjinkmagelaa
