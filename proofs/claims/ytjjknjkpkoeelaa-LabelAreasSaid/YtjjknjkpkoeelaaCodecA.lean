/- Contracts of the appending functions of codec and of its reference. -/
import Derived.Test.YtjjknjkpkoeelaaChecked
import Derived.Test.YtjjknjkpkoeelaaKit
import Derived.Test.YtjjknjkpkoeelaaPlainCodec
import Derived.Deep.RegionLaw
set_option linter.unusedVariables false
namespace Go.Proofs.Ytjjknjkpkoeelaa
open Go Go.RowKit Go.Lib

theorem info_u8 : (Try.prog.info? 5).map (fun i => (i.zero, i.size, i.bytes)) = some (some (.int .u8 0), 1, 1) := by kernel_rfl

/-- append to a row of bytes of the call's own, whatever is appended. -/
theorem wp_appendB (w : World) {o : Oper} {a : Act} {K : Act → World → Prop} {Q : Exit → Act → World → Prop} (s x : Operand)
    (ho : o.op = .call { callee := .builtin .append, args := #[s, x], argTypes := #[35, 35] })
    (base : Nat) (v : Value) (n : Nat) (xs : List UInt8) (hs : a.eval s = v) (hown : w.ownsRow base 5 1 v n (bv xs))
    (ax : Option Addr) (m c : Nat) (news : List UInt8) (hx : a.eval x = .slice ax m c) (hsl : Sl w 1 ax m c (bv news))
    (hb : n + m ≤ 1000000000) (hbase : base ≤ w.heap.size)
    (h : ∀ a' c' w', w'.ownsRow base 5 1 (.slice a' (n + m) c') (n + m) (bv (xs ++ news)) → w.grownBy w' v.ownBlock → K (a.put o.dst (.slice a' (n + m) c')) w') : o.wp Try.prog a w K Q := by
  obtain ⟨i0, hi, hz0, hz1, hz2⟩ := info_parts info_u8
  refine wp_append_sl w s x 35 ho base 5 i0 (.int .u8 0) 1 1 Try.underlying35 hi hz0 hz1 hz2 rfl (by decide) v n (bv xs) hs hown ax m c (bv news) hx hsl (by unfold maxLen; omega) (by omega) hbase ?_
  rw [← bv_append]
  exact h

theorem wpList_appendB (w : World) {ops : Array Oper} {rest : List Oper} {o : Oper} {a : Act} {Q : Exit → Act → World → Prop} (hgd : o.guard = none) (s x : Operand)
    (ho : o.op = .call { callee := .builtin .append, args := #[s, x], argTypes := #[35, 35] })
    (base : Nat) (v : Value) (n : Nat) (xs : List UInt8) (hs : a.eval s = v) (hown : w.ownsRow base 5 1 v n (bv xs))
    (ax : Option Addr) (m c : Nat) (news : List UInt8) (hx : a.eval x = .slice ax m c) (hsl : Sl w 1 ax m c (bv news))
    (hb : n + m ≤ 1000000000) (hbase : base ≤ w.heap.size)
    (h : ∀ a' c' w', w'.ownsRow base 5 1 (.slice a' (n + m) c') (n + m) (bv (xs ++ news)) → w.grownBy w' v.ownBlock → wpList Try.prog ops Q rest (a.put o.dst (.slice a' (n + m) c')) w') : wpList Try.prog ops Q (o :: rest) a w :=
  wpList_plain hgd fun _ hK => wp_appendB w s x ho base v n xs hs hown ax m c news hx hsl hb hbase fun a' c' w' h2 h3 => hK _ _ (h a' c' w' h2 h3)

/-- The same as one step of a region that draws its order. -/
theorem step_appendB {w : World} {ops : Array Oper} {o : Oper} {a : Act} {K : Act → World → Prop} {Q : Exit → Act → World → Prop} {E : Prop} (hgd : o.guard = none) (s x : Operand)
    (ho : o.op = .call { callee := .builtin .append, args := #[s, x], argTypes := #[35, 35] })
    (base : Nat) (v : Value) (n : Nat) (xs : List UInt8) (hs : a.eval s = v) (hown : w.ownsRow base 5 1 v n (bv xs))
    (ax : Option Addr) (m c : Nat) (news : List UInt8) (hx : a.eval x = .slice ax m c) (hsl : Sl w 1 ax m c (bv news))
    (hb : n + m ≤ 1000000000) (hbase : base ≤ w.heap.size)
    (h : ∀ a' c' w', w'.ownsRow base 5 1 (.slice a' (n + m) c') (n + m) (bv (xs ++ news)) → w.grownBy w' v.ownBlock → K (a.put o.dst (.slice a' (n + m) c')) w') :
    if Region.wanted o (yielded ops a.tmps) = true then Oper.wp Try.prog o a w K Q else E := by
  have hw : Region.wanted o (yielded ops a.tmps) = true := by simp [Region.wanted, hgd]
  rw [if_pos hw]
  exact wp_appendB w s x ho base v n xs hs hown ax m c news hx hsl hb hbase h

set_option maxRecDepth 100000 in
set_option maxHeartbeats 400000 in
theorem cloneB_any (a : Option Addr) (n c : Nat) (l : List UInt8) (w : World) (h : Sl w 1 a n c (bv l)) (hl : l.length ≤ 1000000) :
    Calls Try.prog 57 #[.slice a n c] w fun e w' => ∃ a' n' c', e = .returned (.slice a' n' c') ∧ w'.ownsRow w.heap.size 5 1 (.slice a' n' c') n' (bv l) ∧ Below w.heap.size w w' := by
  have hlen := h.len
  rw [bv_length] at hlen
  have kn := fun (w : World) (a : Option Addr) (n c : Nat) => Lib.run_eql_slice_nil (P := Try.prog) w 35 5 a n c 0 0 Try.underlying35
  cases a with
  | none =>
    obtain ⟨rfl, rfl, hl0⟩ := h.none_nil
    have H := Lib.hid hl0; clear hl0 hlen
    go_enter Try.func57, Try.ntmps57
    go_wp2
    go_ret
    exact ⟨none, 0, 0, rfl, by rw [H.out]; exact World.ownsRow_nil _ _ _ _, Below.refl _ _⟩
  | some ad =>
    have hn : n ≤ 1000000 := by omega
    clear hlen
    go_enter Try.func57, Try.ntmps57
    go_wp2_with (at_builtin; refine wpList_appendB _ rfl _ _ rfl w.heap.size _ 0 [] rfl (owns_empty _ _ _ _ (Nat.le_refl _)) (some ad) n c l rfl (h.below ((Below.refl _ _).alloc (Nat.le_refl _) _)) ?h1 ?h2 ?h3)
    case h1 => omega
    case h2 => simp
    case h3 =>
      intro a1 c1 w1 hown hg
      go_wp2
      go_ret
      exact ⟨a1, _, c1, rfl, hown, ((Below.refl _ _).alloc (Nat.le_refl _) _).grown hg (by simp) (by simp [Value.ownBlock])⟩

set_option maxRecDepth 100000 in
set_option maxHeartbeats 400000 in
theorem appendUint_any (a : Option Addr) (n c : Nat) (l : List UInt8) (x : Int) (w : World) (h : Sl w 1 a n c (bv l)) (hl : l.length ≤ 1000000) (h0 : 0 ≤ x) (h1 : x < 18446744073709551616) :
    Calls Try.prog 54 #[.slice a n c, .int .u64 x] w fun e w' => ∃ a' n' c', e = .returned (.slice a' n' c') ∧ w'.ownsRow w.heap.size 5 1 (.slice a' n' c') n' (bv (l ++ uvarint x.toNat)) ∧ Below w.heap.size w w' := by
  obtain ⟨k, rfl⟩ := Int.eq_ofNat_of_zero_le h0
  have hk : k < 18446744073709551616 := by omega
  clear h0 h1
  rw [Int.toNat_natCast]
  have hlen10 := uvarint_length64 hk
  go_enter Try.func54, Try.ntmps54
  go_wp2_with (go_at_call 57; refine (cloneB_any a n c l _ h hl).mono ?_; rintro e w1 ⟨a1, n1, c1, rfl, hown, hb⟩)
  go_loopw [1, 5] (fun nv ov wr => ∃ (m : Nat) (p : List UInt8) (a1 : Option Addr) (n1 c1 : Nat), nv = .int .u64 (m : Int) ∧ m ≤ k ∧ ov = .slice a1 n1 c1 ∧ wr.ownsRow w.heap.size 5 1 (.slice a1 n1 c1) n1 (bv p) ∧ Hid (p ++ uvarint m = l ++ uvarint k) ∧ Below w.heap.size w wr) (fun nv _ _ => (intOf nv).toNat)
  case atStart => exact ⟨k, l, a1, n1, c1, rfl, Nat.le_refl _, rfl, hown, rfl, hb⟩
  case round =>
    clear hb hown
    obtain ⟨m, p, a1, n1, c1, rfl, hmk, rfl, hown, hp, hb⟩ := hrel
    have hn1 : n1 ≤ 1000010 := by
      have h1 := congrArg List.length hp.out
      have h2 := hown.1
      have h3 := uvarint_pos m
      simp only [List.length_append, bv_length] at h1 h2
      omega
    have hbs := hb.size
    by_cases hlt : m < 128
    · go_wp2_with (at_builtin; refine wpList_appendB _ rfl _ _ rfl w.heap.size _ n1 p rfl (hown.alloc _) _ 1 1 [m.toUInt8] rfl (Sl.byte _ _ _ _ (byte_low m hlt)) ?h1 ?h2 ?h3)
      case h1 => omega
      case h2 => simp; omega
      case h3 =>
        intro a2 c2 w2 hown2 hg2
        go_wp2
        go_ret
        refine ⟨a2, _, c2, rfl, ?_, (hb.alloc hbs _).grown hg2 (by simp; omega) (fun j hj => (hown.lt j hj).1)⟩
        rw [← hp.out, uvarint_small hlt]
        exact hown2
    · obtain ⟨b, hbq⟩ : ∃ b : UInt8, Hid (b = (m % 128 + 128).toUInt8) := ⟨_, rfl⟩
      have hbb : Hid (bits .or .u8 ((m : Int) % 256) 128 = (b.toNat : Int)) := by rw [hbq.out]; exact byte_or128 m
      go_wp2_with (at_builtin; refine wpList_appendB _ rfl _ _ rfl w.heap.size _ n1 p rfl (hown.alloc _) _ 1 1 [b] rfl (Sl.byte _ _ _ _ hbb.out) ?h4 ?h5 ?h6)
      case h4 => omega
      case h5 => simp; omega
      case h6 =>
        intro a2 c2 w2 hown2 hg2
        go_wp2
        go_roundw
        case rel => exact ⟨m / 128, p ++ [b], a2, n1 + 1, c2, by go_num, by omega, rfl, hown2, Lib.hid (by rw [← hp.out, hbq.out, uvarint_big (by omega : 128 ≤ m)]; simp), (hb.alloc hbs _).grown hg2 (by simp; omega) (fun j hj => (hown.lt j hj).1)⟩
        case measure => simp [intOf]; omega

set_option maxRecDepth 100000 in
set_option maxHeartbeats 400000 in
theorem refAppendUint_any (a : Option Addr) (n c : Nat) (l : List UInt8) (x : Int) (w : World) (h : Sl w 1 a n c (bv l)) (hl : l.length ≤ 1000000) (h0 : 0 ≤ x) (h1 : x < 18446744073709551616) :
    Calls Try.prog 47 #[.slice a n c, .int .u64 x] w fun e w' => ∃ a' n' c', e = .returned (.slice a' n' c') ∧ w'.ownsRow w.heap.size 5 1 (.slice a' n' c') n' (bv (l ++ uvarint x.toNat)) ∧ Below w.heap.size w w' := by
  obtain ⟨k, rfl⟩ := Int.eq_ofNat_of_zero_le h0
  have hk : k < 18446744073709551616 := by omega
  clear h0 h1
  rw [Int.toNat_natCast]
  have hlen10 := uvarint_length64 hk
  have hn : n ≤ 1000000 := by have := h.len; rw [bv_length] at this; omega
  go_enter Try.func47, Try.ntmps47
  go_wp2_with (at_builtin; refine wpList_appendB _ rfl _ _ rfl w.heap.size _ 0 [] rfl (owns_empty _ _ _ _ (Nat.le_refl _)) _ n c l rfl (h.below ((Below.refl _ _).alloc (Nat.le_refl _) _)) ?g1 ?g2 ?g3)
  case g1 => omega
  case g2 => simp
  case g3 =>
  intro a0 c0 w0 hown0 hg0
  have hb0 : Below w.heap.size w w0 := ((Below.refl _ _).alloc (Nat.le_refl _) _).grown hg0 (by simp) (by simp [Value.ownBlock])
  clear hg0
  go_wp2
  go_loopw [1, 5] (fun nv ov wr => ∃ (m : Nat) (p : List UInt8) (a1 : Option Addr) (n1 c1 : Nat), nv = .int .u64 (m : Int) ∧ m ≤ k ∧ ov = .slice a1 n1 c1 ∧ wr.ownsRow w.heap.size 5 1 (.slice a1 n1 c1) n1 (bv p) ∧ Hid (p ++ uvarint m = l ++ uvarint k) ∧ Below w.heap.size w wr) (fun nv _ _ => (intOf nv).toNat)
  case atStart => exact ⟨k, l, a0, _, c0, rfl, Nat.le_refl _, rfl, hown0, rfl, hb0⟩
  case round =>
    clear hb0 hown0
    obtain ⟨m, p, a1, n1, c1, rfl, hmk, rfl, hown, hp, hb⟩ := hrel
    have hn1 : n1 ≤ 1000010 := by
      have h1 := congrArg List.length hp.out
      have h2 := hown.1
      have h3 := uvarint_pos m
      simp only [List.length_append, bv_length] at h1 h2
      omega
    have hbs := hb.size
    by_cases hlt : m < 128
    · go_wp2_with (at_builtin; refine wpList_appendB _ rfl _ _ rfl w.heap.size _ n1 p rfl (hown.alloc _) _ 1 1 [m.toUInt8] rfl (Sl.byte _ _ _ _ (byte_low m hlt)) ?h1 ?h2 ?h3)
      case h1 => omega
      case h2 => simp; omega
      case h3 =>
        intro a2 c2 w2 hown2 hg2
        go_wp2
        go_ret
        refine ⟨a2, _, c2, rfl, ?_, (hb.alloc hbs _).grown hg2 (by simp; omega) (fun j hj => (hown.lt j hj).1)⟩
        rw [← hp.out, uvarint_small hlt]
        exact hown2
    · obtain ⟨b, hbq⟩ : ∃ b : UInt8, Hid (b = (m % 128 + 128).toUInt8) := ⟨_, rfl⟩
      have hbb : Hid ((m : Int) % 128 + 128 = (b.toNat : Int)) := by rw [hbq.out]; exact byte_sum128 m
      go_wp2_with (at_builtin; refine wpList_appendB _ rfl _ _ rfl w.heap.size _ n1 p rfl (hown.alloc _) _ 1 1 [b] rfl (Sl.byte _ _ _ _ hbb.out) ?h4 ?h5 ?h6)
      case h4 => omega
      case h5 => simp; omega
      case h6 =>
        intro a2 c2 w2 hown2 hg2
        go_wp2
        go_roundw
        case rel => exact ⟨m / 128, p ++ [b], a2, n1 + 1, c2, by go_num, by omega, rfl, hown2, Lib.hid (by rw [← hp.out, hbq.out, uvarint_big (by omega : 128 ≤ m)]; simp), (hb.alloc hbs _).grown hg2 (by simp; omega) (fun j hj => (hown.lt j hj).1)⟩
        case measure => simp [intOf]; omega

end Go.Proofs.Ytjjknjkpkoeelaa
