/- slices.Chunk and slices.Collect at []byte: the chunks of a slice, as slice values. -/
import Derived.RangeFuncBox
import Derived.RangeFuncLeaves
import Derived.Shelf.Abstract
import Derived.WalkKit
import Derived.OwnWalkIn
import Derived.TacticsInMore
import Derived.LoopNIn
import Derived.LoopIn
import Derived.Maps.AppendAt
import Derived.Sort.QuietIn
import Derived.Test.YtjjknjkpkoeelaaCodecA
import Derived.Test.YtjjknjkpkoeelaaKit2
set_option linter.unusedVariables false
set_option linter.unusedSimpArgs false
namespace Go.Proofs.Ytjjknjkpkoeelaa
open Go Go.RowKit Go.Lib Go.Shelf

attribute [local go_sem] Oper.semAt_some

abbrev SV := Option Addr × Nat × Nat
def SV.v (x : SV) : Value := .slice x.1 x.2.1 x.2.2
/-- The k-th chunk of n bytes at b, off. -/
def chv (b off n k : Nat) : SV := (some ⟨b, off + 28 * k, none⟩, min 28 (n - 28 * k), min 28 (n - 28 * k))
def chs (b off n k : Nat) : List SV := (List.range k).map (chv b off n)
theorem chs_succ (b off n k : Nat) : chs b off n (k + 1) = chs b off n k ++ [chv b off n k] := by simp [chs, List.range_succ]
theorem chs_length (b off n k : Nat) : (chs b off n k).length = k := by simp [chs]

theorem Below.drewN' {B : Nat} {w w' : World} (h : Below B w w') (k : Nat) : Below B w (w'.drewN k) := ⟨h.os, h.tape, h.output, h.size, h.block⟩

set_option maxRecDepth 100000 in
set_option maxHeartbeats 2000000 in
theorem chunk1_in (n : Nat) (hn : 1 ≤ n) (l Bs Bn n₀ b off len cap : Nat) (hlc : len ≤ cap) (hlen : len ≤ 1000000) (hbs : Bs < n₀) (hbn : Bn < n₀) (J Jx : List SV → World → Prop)
    (hY : ∀ pre x W, J pre W → pre.length < (len + 27) / 28 → YieldAt Fence.wide (n - 1) Try.prog l #[.slice x.1 x.2.1 x.2.2] W fun e W' =>
      (e = .returned (.bool true) ∧ J (pre ++ [x]) W' ∧ Below n₀ W W') ∨ (e = .returned (.bool false) ∧ Jx (pre ++ [x]) W'))
    (W : World) (hBs : W.cell? ⟨Bs, 0, none⟩ = some (.slice (some ⟨b, off, none⟩) len cap)) (hBn : W.cell? ⟨Bn, 0, none⟩ = some (.int .i64 28)) (h0 : J [] W) (hJd : ∀ xs W k, J xs W → J xs (W.drewN k)) :
    CallsIn Fence.wide n Try.prog 51 #[.func (.yield l) #[] #[], .pointer (some ⟨Bs, 0, none⟩), .pointer (some ⟨Bn, 0, none⟩)] W fun e W' => (∃ v, e = .returned v) ∧
      ((∃ ys, ys = chs b off len ((len + 27) / 28) ∧ J ys W') ∨ (∃ pre, (∃ k, pre = chs b off len k) ∧ Jx pre W')) := by
  refine callsIn_of_wp Try.func51 rfl trivial ?_ rfl
  simp only [Try.ntmps51, List.size_toArray, List.length_cons, List.length_nil, Nat.reduceAdd, Nat.reduceSub, Array.replicate_succ, Array.replicate_zero, List.push_toArray, List.append_toArray, List.nil_append, List.cons_append]
  gi_wp2
  gi_loopw [4] (fun i wr => ∃ k o : Nat, k ≤ (len + 27) / 28 ∧ Hid (o = 28 * k) ∧ o ≤ 1000027 ∧ i = .int .i64 (o : Int) ∧ J (chs b off len k) wr ∧ Hid (Below n₀ W wr))
    (fun i _ => 2000000 - (intOf i).toNat)
  case atStart => exact ⟨0, 0, Nat.zero_le _, Lib.hid rfl, by omega, rfl, h0, Lib.hid (Below.refl _ _)⟩
  case round =>
    obtain ⟨k, o, hk, hko, ho7, rfl, hJs, hnx⟩ := hrel
    have hc1 := below_cell hnx.out hbs hBs
    have hc2 := below_cell hnx.out hbn hBn
    by_cases hlt : o < len
    · have hY2 := fun nq => hY _ (chv b off len k) (wr.drewN nq) (hJd _ _ nq hJs) (by rw [chs_length]; have := hko.out; omega)
      have hltI : (o : Int) < len := by omega
      have hI0 : (0 : Int) ≤ (o : Int) := by omega
      have hsl : ∀ wx, (Instr.slice 35 (.slice (some ⟨b, off, none⟩) len cap) (some (.int .i64 (o : Int))) none none).run Try.prog wx = .ok (.slice (some ⟨b, off + o, none⟩) (len - o) (cap - o)) wx := by
        intro wx
        obtain ⟨i0, hi, hz0, hz1, hz2⟩ := info_parts info_u8
        rw [run_slice_l wx 35 _ len cap Try.underlying35 .i64 _ (by omega) (by omega)]
        have he : Try.prog.elem 35 = 5 := by kernel_rfl
        simp [sizeOf, typeInfo, he, hi, hz1, sliced, show ¬ cap = o by omega, Addr.add_lit]
      obtain ⟨m, hm⟩ : ∃ m, m = min 28 (len - o) := ⟨_, rfl⟩
      have hsl2 : ∀ wx, (Instr.slice 35 (.slice (some ⟨b, off, none⟩) len cap) (some (.int .i64 (o : Int))) (some (.int .i64 ((o : Int) + m))) (some (.int .i64 ((o : Int) + m)))).run Try.prog wx = .ok (.slice (some ⟨b, off + o, none⟩) m m) wx := by
        intro wx
        obtain ⟨i0, hi, hz0, hz1, hz2⟩ := info_parts info_u8
        rw [run_slice_lhm wx 35 _ len cap Try.underlying35 .i64 .i64 .i64 _ _ _ (by omega) (by omega) (by omega) (by omega)]
        have he : Try.prog.elem 35 = 5 := by kernel_rfl
        have hom : ((o : Int) + (m : Int)).toNat = o + m := by omega
        simp [sizeOf, typeInfo, he, hi, hz1, sliced, Addr.add_lit, hom, show ¬ m = 0 by omega]
      have hch : chv b off len k = (some ⟨b, off + o, none⟩, m, m) := by unfold chv; rw [hm, hko.out]
      rw [hch] at hY2
      have HCH := Lib.hid hch
      have HY2 := Lib.hid hY2
      have HM := Lib.hid hm
      have hm28 : (if ((len - o : Nat) : Int) < 28 then ((len - o : Nat) : Int) else 28) = (m : Int) := by split <;> omega
      have HM28 := Lib.hid hm28
      have hoI : (o : Int) ≤ 1000027 := by omega
      have hmI : (m : Int) ≤ 28 := by omega
      have hm0 : (0 : Int) ≤ (m : Int) := by omega
      clear hm hch hY2 hm28
      gi_wp2
      gi_quiet (fail)
      rw [HM28.out]
      obtain ⟨fn, tmps, assign, body, hy, hR⟩ := HY2.out nq
      have hnd := Lib.hid (Below.drewN' hnx.out nq)
      have HR2 := Lib.hid hR
      clear hR
      gi_wp2
      refine HR2.out.mono ?_
      rintro e W3 (⟨rfl, hJ3, hk3⟩ | ⟨rfl, hJx3⟩)
      · have hn3 := Lib.hid (hnd.out.trans hk3)
        have hc3 := below_cell hn3.out hbn hBn
        have HJ3 := Lib.hid hJ3
        rw [← HCH.out, ← chs_succ] at HJ3
        clear hJ3 hk3
        gi_wp2
        go_roundw
        case rel => exact ⟨k + 1, o + 28, by have := hko.out; omega, Lib.hid (by have := hko.out; omega), by omega, by go_num, HJ3.out, hn3⟩
        case measure => simp [intOf]; omega
      · gi_wp2
        refine bodyPost_ret (results_none rfl _ _ _) rfl ?_
        exact ⟨⟨_, rfl⟩, .inr ⟨_, ⟨k + 1, by rw [chs_succ, HCH.out]⟩, hJx3⟩⟩
    · have hltI : ¬ (o : Int) < len := by omega
      obtain rfl : k = (len + 27) / 28 := by have := hko.out; omega
      have HJ := Lib.hid hJs
      clear hJs
      gi_wp2
      go_end0
      first | exact ⟨⟨_, rfl⟩, .inl ⟨_, rfl, HJ.out⟩⟩ | exact ⟨⟨_, rfl⟩, .inl HJ.out⟩ | exact .inl HJ.out

/-- The function value that slices.Chunk hands back gives the chunks. -/
theorem chunk1_stops (n : Nat) (hn : 1 ≤ n) (Bs Bn n₀ b off len cap : Nat) (hlc : len ≤ cap) (hlen : len ≤ 1000000) (w : World) (hbs : Bs < n₀) (hbn : Bn < n₀) (hn0 : n₀ ≤ w.heap.size)
    (hBs : w.cell? ⟨Bs, 0, none⟩ = some (.slice (some ⟨b, off, none⟩) len cap)) (hBn : w.cell? ⟨Bn, 0, none⟩ = some (.int .i64 28)) :
    SeqStopsK Fence.wide n Try.prog 51 #[.pointer (some ⟨Bs, 0, none⟩), .pointer (some ⟨Bn, 0, none⟩)] (fun x : SV => #[.slice x.1 x.2.1 x.2.2]) (Below n₀)
      (fun ys => ys = chs b off len ((len + 27) / 28)) (fun pre => ∃ k, pre = chs b off len k) ((len + 27) / 28) w := fun l J Jx W hW hJ _ hY h0 => by
  refine chunk1_in n hn l Bs Bn n₀ b off len cap hlc hlen hbs hbn J Jx hY W ((hW.cell (p := ⟨Bs, 0, none⟩) (Nat.lt_of_lt_of_le hbs hn0)).trans hBs) ((hW.cell (p := ⟨Bn, 0, none⟩) (Nat.lt_of_lt_of_le hbn hn0)).trans hBn) h0 ?_
  intro xs W1 k hj
  exact hJ xs W1 _ none hj (grownBy_drewN (World.grownBy.refl _ _) k) (fun r e => by cases e)

theorem info_bs : (Try.prog.info? 35).map (fun i => (i.zero, i.size, i.bytes)) = some (some (.slice none 0 0), 1, 24) := by kernel_rfl

def svv (x : SV) : Value := .slice x.1 x.2.1 x.2.2

set_option maxRecDepth 100000 in
set_option maxHeartbeats 2000000 in
/-- slices.AppendSeq(nil, seq). -/
theorem appendSeq_any (Bs Bn b off len cap : Nat) (hlc : len ≤ cap) (hlen : len ≤ 1000000) (w : World) (hbs : Bs < w.heap.size) (hbn : Bn < w.heap.size)
    (hBs : w.cell? ⟨Bs, 0, none⟩ = some (.slice (some ⟨b, off, none⟩) len cap)) (hBn : w.cell? ⟨Bn, 0, none⟩ = some (.int .i64 28)) :
    Calls Try.prog 50 #[.slice none 0 0, .func (.func 51) #[] #[.pointer (some ⟨Bs, 0, none⟩), .pointer (some ⟨Bn, 0, none⟩)]] w fun e W' => ∃ v, e = .returned v ∧ W'.ownsRow w.heap.size 35 1 v ((len + 27) / 28) ((chs b off len ((len + 27) / 28)).map svv) ∧ Below w.heap.size w W' := by
  refine (callsIn_wide (n := 4)).1 ?_
  obtain ⟨i0, hi, hz0, hz1, hz2⟩ := info_parts info_bs
  refine callsIn_of_wp_marks Try.func50 rfl trivial ?_ rfl
  simp only [Try.ntmps50, List.size_toArray, List.length_cons, List.length_nil, Nat.reduceAdd, Nat.reduceSub, Array.replicate_succ, Array.replicate_zero, List.push_toArray, List.append_toArray, List.nil_append, List.cons_append]
  gi_wp2
  have bO := Boxed.new w 31 (.slice none 0 0)
  have hB0 : Below w.heap.size w (w.alloc (.cells #[.slice none 0 0] 31)) := (Below.refl _ w).alloc (Nat.le_refl _) _
  refine wpIn_rangeFunc_ownG rfl (by omega) (gf := 51) (lb := #[.pointer (some ⟨Bs, 0, none⟩), .pointer (some ⟨Bn, 0, none⟩)]) rfl trivial (enters_of Try.func51 (by kernel_rfl) rfl)
    (chunk1_stops (4 - 1) (by omega) Bs Bn w.heap.size b off len cap hlc hlen _ hbs hbn (by simp) ((hB0.cell (p := ⟨Bs, 0, none⟩) hbs).trans hBs) ((hB0.cell (p := ⟨Bn, 0, none⟩) hbn).trans hBn)) belowK_t (belowK_b (by simp)) (Below.refl _ _) (fun _ => rfl)
    (fun pre W => (∃ v, Boxed W w.heap.size 31 v ∧ W.ownsRow w.heap.size 35 1 v pre.length (pre.map svv) ∧ True) ∧ Below w.heap.size w W)
    (fun _ _ _ => False)
    (OwnFrom.and (Own.from (holdsRow_own w.heap.size w.heap.size 31 35 1 (fun pre : List SV => pre.length) (fun pre => pre.map svv) (fun _ _ => True)) _) (ownFrom_below (Nat.le_refl _) (by simp)))
    (fun _ _ _ _ _ hs _ _ => hs)
    ⟨⟨_, bO, World.ownsRow_nil _ _ _ _, trivial⟩, hB0⟩
    (fun x => { tmps := #[.slice none 0 0, .func (.func 51) #[] #[.pointer (some ⟨Bs, 0, none⟩), .pointer (some ⟨Bn, 0, none⟩)], .pointer (some ⟨w.heap.size, 0, none⟩), undef, .slice none 0 0, .slice x.1 x.2.1 x.2.2, .func (.func 51) #[] #[.pointer (some ⟨Bs, 0, none⟩), .pointer (some ⟨Bn, 0, none⟩)], .slice x.1 x.2.1 x.2.2, undef, undef, undef, undef, undef], defers := [] }) ?assign ?body ?done ?stop
  case assign =>
    intro l x W K hK
    gi_wp2
    exact hK
  case body =>
    rintro l pre x W ⟨⟨v, hv, hrow, -⟩, hB⟩ hlt
    have hc := hv.cell
    have hpl : pre.length ≤ 1000000 := by omega
    gi_wp2_with (gi_at_builtin; refine wpListIn_append_own _ rfl _ _ 31 rfl w.heap.size 35 i0 (.slice none 0 0) 1 24 Try.underlying31 hi hz0 hz1 hz2 rfl (by decide) _ _ _ rfl (hrow.alloc _) ⟨W.heap.size, 0, none⟩ 1 1 [.slice x.1 x.2.1 x.2.2] rfl rfl (cell_one_new _ _ _) (by simp [Value.oneCell']) (by unfold maxLen; omega) (by omega) (by have := hB.size; simp; omega) ?_; intro v' w1 hown' hgrow _; obtain ⟨g', cap', rfl⟩ := ownsRow_succ hown'; obtain ⟨hv1, hv2, hr2, hk2, hb2⟩ := hv.appended (by decide) hrow hB.size (Nat.le_refl _) hown' hgrow; have hc1 := hv1.cell; have hf1 := hv1.frozen)
    exact ⟨hk2.from _, hb2, ⟨_, hv2, by simpa [svv] using hr2, trivial⟩, hB.trans hb2⟩
  case done =>
    rintro D ys W hD rfl ⟨⟨v, hv, hrow, -⟩, hB⟩ hK
    have hc := hv.cell
    gi_wp2
    refine ⟨by simp, .inl ⟨_, _, rfl, run_takeDeferred hK, ?_⟩⟩
    refine ⟨_, results_tmp rfl _ _ _, v, rfl, ?_, hB.trans (belowK_b (w := w) (Nat.le_refl _) W D _ _ (by simp at hD; omega) hK rfl rfl)⟩
    have := ownsRow_putObj hrow (.deferred none) hK rfl
    rwa [chs_length] at this
  case stop =>
    rintro D c pre W _ _ h _
    exact h.elim

end Go.Proofs.Ytjjknjkpkoeelaa
