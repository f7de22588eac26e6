/- Labels: the payload as the code writes it: the pointers to the numbers of a configuration, the closure that sets a bit. (Printed by payl.py.) -/
import Derived.Test.YtjjknjkpkoeelaaPlainLbl
import Derived.Test.YtjjknjkpkoeelaaSteps
set_option linter.unusedVariables false
set_option linter.unusedSimpArgs false
namespace Go.Proofs.Ytjjknjkpkoeelaa
open Go Go.RowKit Go.Lib

def ptrs (g o : Nat) : List Value := (List.range 11).map fun k => Value.pointer (some ⟨g, o + k, none⟩)

set_option maxRecDepth 100000 in
set_option maxHeartbeats 1600000 in
theorem fields_any (g o : Nat) (w : World) :
    Calls Try.prog 52 #[.pointer (some ⟨g, o, none⟩)] w fun e w' => ∃ a c, e = .returned (.slice a 11 c) ∧ Sl w' 1 a 11 c (ptrs g o) ∧ Below w.heap.size w w' := by
  go_enter Try.func52, Try.ntmps52
  go_wp2
  have HB := Lib.hid (show Below w.heap.size w w.drew from (Below.refl _ _).drew)
  have hs : w.heap.size ≤ w.drew.heap.size := Nat.le_refl _
  refine Rest.begin 35 (by kernel_rfl) (by kernel_rfl) ?_
  refine Rest.take 0 7 rfl (by kernel_rfl) (by kernel_rfl) (by kernel_rfl) (fun _ _ _ h => h) (by rfl) (by rfl) (by intro x hx; go_simp <;> with_reducible rfl) (by simp only [Act.put, List.setIfInBounds_toArray, List.set_cons_zero, List.set_cons_succ] <;> rfl) ?_
  refine Rest.take 1 8 rfl (by kernel_rfl) (by kernel_rfl) (by kernel_rfl) (fun _ _ _ h => h) (by rfl) (by rfl) (by intro x hx; go_simp <;> with_reducible rfl) (by simp only [Act.put, List.setIfInBounds_toArray, List.set_cons_zero, List.set_cons_succ] <;> rfl) ?_
  refine Rest.take 2 9 rfl (by kernel_rfl) (by kernel_rfl) (by kernel_rfl) (fun _ _ _ h => h) (by rfl) (by rfl) (by intro x hx; go_simp <;> with_reducible rfl) (by simp only [Act.put, List.setIfInBounds_toArray, List.set_cons_zero, List.set_cons_succ] <;> rfl) ?_
  refine Rest.take 3 10 rfl (by kernel_rfl) (by kernel_rfl) (by kernel_rfl) (fun _ _ _ h => h) (by rfl) (by rfl) (by intro x hx; go_simp <;> with_reducible rfl) (by simp only [Act.put, List.setIfInBounds_toArray, List.set_cons_zero, List.set_cons_succ] <;> rfl) ?_
  refine Rest.take 4 11 rfl (by kernel_rfl) (by kernel_rfl) (by kernel_rfl) (fun _ _ _ h => h) (by rfl) (by rfl) (by intro x hx; go_simp <;> with_reducible rfl) (by simp only [Act.put, List.setIfInBounds_toArray, List.set_cons_zero, List.set_cons_succ] <;> rfl) ?_
  refine Rest.take 5 12 rfl (by kernel_rfl) (by kernel_rfl) (by kernel_rfl) (fun _ _ _ h => h) (by rfl) (by rfl) (by intro x hx; go_simp <;> with_reducible rfl) (by simp only [Act.put, List.setIfInBounds_toArray, List.set_cons_zero, List.set_cons_succ] <;> rfl) ?_
  refine Rest.take 6 13 rfl (by kernel_rfl) (by kernel_rfl) (by kernel_rfl) (fun _ _ _ h => h) (by rfl) (by rfl) (by intro x hx; go_simp <;> with_reducible rfl) (by simp only [Act.put, List.setIfInBounds_toArray, List.set_cons_zero, List.set_cons_succ] <;> rfl) ?_
  refine Rest.take 7 14 rfl (by kernel_rfl) (by kernel_rfl) (by kernel_rfl) (fun _ _ _ h => h) (by rfl) (by rfl) (by intro x hx; go_simp <;> with_reducible rfl) (by simp only [Act.put, List.setIfInBounds_toArray, List.set_cons_zero, List.set_cons_succ] <;> rfl) ?_
  refine Rest.take 8 15 rfl (by kernel_rfl) (by kernel_rfl) (by kernel_rfl) (fun _ _ _ h => h) (by rfl) (by rfl) (by intro x hx; go_simp <;> with_reducible rfl) (by simp only [Act.put, List.setIfInBounds_toArray, List.set_cons_zero, List.set_cons_succ] <;> rfl) ?_
  refine Rest.take 9 16 rfl (by kernel_rfl) (by kernel_rfl) (by kernel_rfl) (fun _ _ _ h => h) (by rfl) (by rfl) (by intro x hx; go_simp <;> with_reducible rfl) (by simp only [Act.put, List.setIfInBounds_toArray, List.set_cons_zero, List.set_cons_succ] <;> rfl) ?_
  refine Rest.take 10 17 rfl (by kernel_rfl) (by kernel_rfl) (by kernel_rfl) (fun _ _ _ h => h) (by rfl) (by rfl) (by intro x hx; go_simp <;> with_reducible rfl) (by simp only [Act.put, List.setIfInBounds_toArray, List.set_cons_zero, List.set_cons_succ] <;> rfl) ?_
  refine Rest.take 11 18 rfl (by kernel_rfl) (by kernel_rfl) (by kernel_rfl) (fun _ _ _ h => h) (by rfl) (by rfl) (by intro x hx; go_simp <;> with_reducible rfl) (by simp only [Act.put, List.setIfInBounds_toArray, List.set_cons_zero, List.set_cons_succ] <;> rfl) ?_
  refine Rest.take 12 19 rfl (by kernel_rfl) (by kernel_rfl) (by kernel_rfl) (fun _ _ _ h => h) (by rfl) (by rfl) (by intro x hx; go_simp <;> with_reducible rfl) (by simp only [Act.put, List.setIfInBounds_toArray, List.set_cons_zero, List.set_cons_succ] <;> rfl) ?_
  refine Rest.take 13 20 rfl (by kernel_rfl) (by kernel_rfl) (by kernel_rfl) (fun _ _ _ h => h) (by rfl) (by rfl) (by intro x hx; go_simp <;> with_reducible rfl) (by simp only [Act.put, List.setIfInBounds_toArray, List.set_cons_zero, List.set_cons_succ] <;> rfl) ?_
  refine Rest.take 14 21 rfl (by kernel_rfl) (by kernel_rfl) (by kernel_rfl) (fun _ _ _ h => h) (by rfl) (by rfl) (by intro x hx; go_simp <;> with_reducible rfl) (by simp only [Act.put, List.setIfInBounds_toArray, List.set_cons_zero, List.set_cons_succ] <;> rfl) ?_
  refine Rest.take 15 22 rfl (by kernel_rfl) (by kernel_rfl) (by kernel_rfl) (fun _ _ _ h => h) (by rfl) (by rfl) (by intro x hx; go_simp <;> with_reducible rfl) (by simp only [Act.put, List.setIfInBounds_toArray, List.set_cons_zero, List.set_cons_succ] <;> rfl) ?_
  refine Rest.take 16 23 rfl (by kernel_rfl) (by kernel_rfl) (by kernel_rfl) (fun _ _ _ h => h) (by rfl) (by rfl) (by intro x hx; go_simp <;> with_reducible rfl) (by simp only [Act.put, List.setIfInBounds_toArray, List.set_cons_zero, List.set_cons_succ] <;> rfl) ?_
  refine Rest.take 17 24 rfl (by kernel_rfl) (by kernel_rfl) (by kernel_rfl) (fun _ _ _ h => h) (by rfl) (by rfl) (by intro x hx; go_simp <;> with_reducible rfl) (by simp only [Act.put, List.setIfInBounds_toArray, List.set_cons_zero, List.set_cons_succ] <;> rfl) ?_
  refine Rest.take 18 25 rfl (by kernel_rfl) (by kernel_rfl) (by kernel_rfl) (fun _ _ _ h => h) (by rfl) (by rfl) (by intro x hx; go_simp <;> with_reducible rfl) (by simp only [Act.put, List.setIfInBounds_toArray, List.set_cons_zero, List.set_cons_succ] <;> rfl) ?_
  refine Rest.take 19 26 rfl (by kernel_rfl) (by kernel_rfl) (by kernel_rfl) (fun _ _ _ h => h) (by rfl) (by rfl) (by intro x hx; go_simp <;> with_reducible rfl) (by simp only [Act.put, List.setIfInBounds_toArray, List.set_cons_zero, List.set_cons_succ] <;> rfl) ?_
  refine Rest.take 20 27 rfl (by kernel_rfl) (by kernel_rfl) (by kernel_rfl) (fun _ _ _ h => h) (by rfl) (by rfl) (by intro x hx; go_simp <;> with_reducible rfl) (by simp only [Act.put, List.setIfInBounds_toArray, List.set_cons_zero, List.set_cons_succ] <;> rfl) ?_
  refine Rest.take 21 28 rfl (by kernel_rfl) (by kernel_rfl) (by kernel_rfl) (fun _ _ _ h => h) (by rfl) (by rfl) (by intro x hx; go_simp <;> with_reducible rfl) (by simp only [Act.put, List.setIfInBounds_toArray, List.set_cons_zero, List.set_cons_succ] <;> rfl) ?_
  refine Rest.take 22 29 rfl (by kernel_rfl) (by kernel_rfl) (by kernel_rfl) (fun _ _ _ h => h) (by rfl) (by rfl) (by intro x hx; go_simp <;> with_reducible rfl) (by simp only [Act.put, List.setIfInBounds_toArray, List.set_cons_zero, List.set_cons_succ] <;> rfl) ?_
  refine Rest.take 23 30 rfl (by kernel_rfl) (by kernel_rfl) (by kernel_rfl) (fun _ _ _ h => h) (by rfl) (by rfl) (by intro x hx; go_simp <;> with_reducible rfl) (by simp only [Act.put, List.setIfInBounds_toArray, List.set_cons_zero, List.set_cons_succ] <;> rfl) ?_
  refine Rest.take 24 31 rfl (by kernel_rfl) (by kernel_rfl) (by kernel_rfl) (fun _ _ _ h => h) (by rfl) (by rfl) (by intro x hx; go_simp <;> with_reducible rfl) (by simp only [Act.put, List.setIfInBounds_toArray, List.set_cons_zero, List.set_cons_succ] <;> rfl) ?_
  refine Rest.take 25 32 rfl (by kernel_rfl) (by kernel_rfl) (by kernel_rfl) (fun _ _ _ h => h) (by rfl) (by rfl) (by intro x hx; go_simp <;> with_reducible rfl) (by simp only [Act.put, List.setIfInBounds_toArray, List.set_cons_zero, List.set_cons_succ] <;> rfl) ?_
  refine Rest.take 26 33 rfl (by kernel_rfl) (by kernel_rfl) (by kernel_rfl) (fun _ _ _ h => h) (by rfl) (by rfl) (by intro x hx; go_simp <;> with_reducible rfl) (by simp only [Act.put, List.setIfInBounds_toArray, List.set_cons_zero, List.set_cons_succ] <;> rfl) ?_
  refine Rest.take 27 34 rfl (by kernel_rfl) (by kernel_rfl) (by kernel_rfl) (fun _ _ _ h => h) (by rfl) (by rfl) (by intro x hx; go_simp <;> with_reducible rfl) (by simp only [Act.put, List.setIfInBounds_toArray, List.set_cons_zero, List.set_cons_succ] <;> rfl) ?_
  refine Rest.take 28 35 rfl (by kernel_rfl) (by kernel_rfl) (by kernel_rfl) (fun _ _ _ h => h) (by rfl) (by rfl) (by intro x hx; go_simp <;> with_reducible rfl) (by simp only [Act.put, List.setIfInBounds_toArray, List.set_cons_zero, List.set_cons_succ] <;> rfl) ?_
  refine Rest.take 29 36 rfl (by kernel_rfl) (by kernel_rfl) (by kernel_rfl) (fun _ _ _ h => h) (by rfl) (by rfl) (by intro x hx; go_simp <;> with_reducible rfl) (by simp only [Act.put, List.setIfInBounds_toArray, List.set_cons_zero, List.set_cons_succ] <;> rfl) ?_
  refine Rest.take 30 37 rfl (by kernel_rfl) (by kernel_rfl) (by kernel_rfl) (fun _ _ _ h => h) (by rfl) (by rfl) (by intro x hx; go_simp <;> with_reducible rfl) (by simp only [Act.put, List.setIfInBounds_toArray, List.set_cons_zero, List.set_cons_succ] <;> rfl) ?_
  refine Rest.take 31 38 rfl (by kernel_rfl) (by kernel_rfl) (by kernel_rfl) (fun _ _ _ h => h) (by rfl) (by rfl) (by intro x hx; go_simp <;> with_reducible rfl) (by simp only [Act.put, List.setIfInBounds_toArray, List.set_cons_zero, List.set_cons_succ] <;> rfl) ?_
  refine Rest.take 32 39 rfl (by kernel_rfl) (by kernel_rfl) (by kernel_rfl) (fun _ _ _ h => h) (by rfl) (by rfl) (by intro x hx; go_simp <;> with_reducible rfl) (by simp only [Act.put, List.setIfInBounds_toArray, List.set_cons_zero, List.set_cons_succ] <;> rfl) ?_
  refine Rest.step 33 rfl (by kernel_rfl) (by rfl) (fun K hK => ?_)
  go_simp
  refine hK.out _ _ ((Below.refl _ _).alloc (Nat.le_refl _) _) ?_
  refine Rest.take 34 2 rfl (by kernel_rfl) (by kernel_rfl) (by kernel_rfl) (fun _ _ _ h => h) (by rfl) (by rfl) (by intro x hx; go_simp <;> with_reducible rfl) (by simp only [Act.put, List.setIfInBounds_toArray, List.set_cons_zero, List.set_cons_succ] <;> rfl) ?_
  refine Rest.done (by kernel_rfl) ?_
  go_wp2
  go_ret
  refine ⟨_, _, rfl, ?_, (HB.out.alloc hs _)⟩
  exact Sl.lit' w.drew _ _ 11 _ rfl rfl (by decide) (by intro u hu; simp at hu; rcases hu with rfl | rfl | rfl | rfl | rfl | rfl | rfl | rfl | rfl | rfl | rfl <;> rfl)

set_option maxRecDepth 100000 in
set_option maxHeartbeats 1600000 in
theorem set_any (i bx q m c y k r pw : Nat) (w : World) (hi : i ≤ 1000000) (hx : w.cell? ⟨bx, 0, none⟩ = some (.slice (some ⟨q, 0, none⟩) m c)) (hmc : m ≤ c) (hk : k = i / 8) (hr : r = i % 8) (hpw : pw = 2 ^ r) (hy : w.cell? ⟨q, k, none⟩ = some (.int .u8 (y : Int))) (hf : w.frozen? ⟨q, k, none⟩ = false) (hkm : k < m) (hlow : y < pw) (hqb : bx ≠ q) :
    Calls Try.prog 53 #[.int .i64 (i : Int), .pointer (some ⟨bx, 0, none⟩)] w fun e w' => (∃ v, e = .returned v) ∧ w' = w.drew.setCell ⟨q, k, none⟩ (.int .u8 ((y + pw : Nat) : Int)) := by
  have hSw : w.drew.cell? ⟨bx, 0, none⟩ = some (.slice (some ⟨q, 0, none⟩) m c) := hx
  have HY : Hid (w.drew.cell? ⟨q, k, none⟩ = some (.int .u8 (y : Int))) := Lib.hid hy
  have HNE := Lib.hid hqb
  have hi0 : (0 : Int) ≤ (i : Int) := by omega
  have hi8 : (0 : Int) ≤ (k : Int) := by omega
  have him : (k : Int) < (m : Int) := by omega
  have hcast : (2 : Int) ^ r = (pw : Int) := by rw [hpw, Int.natCast_pow]; rfl
  have hp8 := pow_8 (k := r) (by omega)
  have HPOW : Hid (IntKind.u8.wrap (2 ^ r) = (pw : Int)) := Lib.hid (by rw [hcast, IntKind.wrap_u8]; omega)
  have HOR : Hid (bits .or .u8 (y : Int) (pw : Int) = ((y + pw : Nat) : Int)) := Lib.hid (by rw [← hcast, hpw]; exact or_bit (k := r) (by omega) (by omega))
  have HK := Lib.hid hk
  have HR := Lib.hid hr
  clear hx hy hcast hpw hk hr hp8 hlow hkm
  go_enter Try.func53, Try.ntmps53
  refine RestS.begin (fun x => x.cell? ⟨bx, 0, none⟩ = some (.slice (some ⟨q, 0, none⟩) m c)) 11 (by kernel_rfl) (by kernel_rfl) ?_
  refine RestS.take 0 3 rfl (by kernel_rfl) (by kernel_rfl) (by kernel_rfl) (fun _ _ _ h => h) (by rfl) (by rfl) (by intro x hx; have hc := hx; go_simp <;> with_reducible rfl) (by simp only [Act.put, List.setIfInBounds_toArray, List.set_cons_zero, List.set_cons_succ] <;> rfl) hSw ?_
  refine RestS.take 1 4 rfl (by kernel_rfl) (by kernel_rfl) (by kernel_rfl) (fun _ _ _ h => h) (by rfl) (by rfl) (by intro x hx; go_simp <;> with_reducible rfl) (by simp only [Act.put, List.setIfInBounds_toArray, List.set_cons_zero, List.set_cons_succ] <;> rfl) hSw ?_
  refine RestS.take 2 5 (v := .int .i64 (k : Int)) rfl (by kernel_rfl) (by kernel_rfl) (by kernel_rfl) (fun _ _ _ h => h) (by rfl) (by rfl) (by intro x hx; have h0 := hi0; go_simp <;> (rw [IntWalk.i64_in _ (by omega)]; have := HK.out; omega)) (by simp only [Act.put, List.setIfInBounds_toArray, List.set_cons_zero, List.set_cons_succ] <;> rfl) hSw ?_
  refine RestS.take 3 6 (v := .pointer (some ⟨q, k, none⟩)) rfl (by kernel_rfl) (by kernel_rfl) (by kernel_rfl) (fun _ _ _ h => h) (by rfl) (by rfl) (by intro x hx; have h1 := him; have h2 := hmc; have h0 := hi8; go_simp <;> with_reducible rfl) (by simp only [Act.put, List.setIfInBounds_toArray, List.set_cons_zero, List.set_cons_succ] <;> rfl) hSw ?_
  refine RestS.take 5 8 rfl (by kernel_rfl) (by kernel_rfl) (by kernel_rfl) (fun _ _ _ h => h) (by rfl) (by rfl) (by intro x hx; go_simp <;> with_reducible rfl) (by simp only [Act.put, List.setIfInBounds_toArray, List.set_cons_zero, List.set_cons_succ] <;> rfl) hSw ?_
  refine RestS.take 6 9 (v := .int .i64 (r : Int)) rfl (by kernel_rfl) (by kernel_rfl) (by kernel_rfl) (fun _ _ _ h => h) (by rfl) (by rfl) (by intro x hx; go_simp <;> (rw [Int.tmod_eq_emod_of_nonneg (by omega)]; have := HR.out; omega)) (by simp only [Act.put, List.setIfInBounds_toArray, List.set_cons_zero, List.set_cons_succ] <;> rfl) hSw ?_
  refine RestS.take 7 10 (v := .int .u8 (pw : Int)) rfl (by kernel_rfl) (by kernel_rfl) (by kernel_rfl) (fun _ _ _ h => h) (by rfl) (by rfl) (by intro x hx; go_simp <;> (rw [Nat.min_eq_left (by have := HR.out; omega)]; exact HPOW.out)) (by simp only [Act.put, List.setIfInBounds_toArray, List.set_cons_zero, List.set_cons_succ] <;> rfl) hSw ?_
  refine RestS.step 4 rfl (by kernel_rfl) (by rfl) (fun K hK => ?_)
  have hyc := HY.out
  go_simp
  refine hK.out _ _ hSw ?_
  refine RestS.take 8 11 (v := .int .u8 ((y + pw : Nat) : Int)) rfl (by kernel_rfl) (by kernel_rfl) (by kernel_rfl) (fun _ _ _ h => h) (by rfl) (by rfl) (by intro x hx; have hh := HOR.out; go_simp) (by simp only [Act.put, List.setIfInBounds_toArray, List.set_cons_zero, List.set_cons_succ] <;> rfl) hSw ?_
  refine RestS.take 9 12 (v := .pointer (some ⟨q, k, none⟩)) rfl (by kernel_rfl) (by kernel_rfl) (by kernel_rfl) (fun _ _ _ h => h) (by rfl) (by rfl) (by intro x hx; have h1 := him; have h2 := hmc; have h0 := hi8; go_simp <;> with_reducible rfl) (by simp only [Act.put, List.setIfInBounds_toArray, List.set_cons_zero, List.set_cons_succ] <;> rfl) hSw ?_
  refine RestS.step 10 rfl (by kernel_rfl) (by rfl) (fun K hK => ?_)
  have hyc := HY.out
  have hfd : w.drew.frozen? ⟨q, k, none⟩ = false := hf
  go_simp
  have hSw2 : (w.drew.setCell ⟨q, k, none⟩ (.int .u8 ((y + pw : Nat) : Int))).cell? ⟨bx, 0, none⟩ = some (.slice (some ⟨q, 0, none⟩) m c) := by rw [World.cell?_setCell_other _ _ _ _ (by intro h; injection h with h1; exact HNE.out h1.symm)]; exact hSw
  refine hK.out _ _ hSw2 ?_
  refine wpAnyH_done (by kernel_rfl) ?_ _
  go_end0
  exact ⟨⟨_, rfl⟩, rfl⟩

end Go.Proofs.Ytjjknjkpkoeelaa
