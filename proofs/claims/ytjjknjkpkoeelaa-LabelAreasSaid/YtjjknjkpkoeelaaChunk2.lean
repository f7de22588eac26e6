/- slices.Chunk and slices.Collect joined; slices of byte slices; the sectors in plain Lean. -/
import Derived.Test.YtjjknjkpkoeelaaChunk
import Derived.Test.YtjjknjkpkoeelaaSeal2
import Derived.Test.YtjjknjkpkoeelaaPlainLbl
set_option linter.unusedVariables false
set_option linter.unusedSimpArgs false
namespace Go.Proofs.Ytjjknjkpkoeelaa
open Go Go.RowKit Go.Lib

set_option maxRecDepth 100000 in
set_option maxHeartbeats 800000 in
theorem chunk_any (a : Option Addr) (len cap : Nat) (w : World) :
    Calls Try.prog 30 #[.slice a len cap, .int .i64 28] w fun e w' => e = .returned (.func (.func 51) #[] #[.pointer (some ⟨w.heap.size, 0, none⟩), .pointer (some ⟨w.heap.size + 1, 0, none⟩)]) ∧ w' = (w.alloc (.cells #[.slice a len cap] 35)).alloc (.cells #[.int .i64 28] 3) := by
  go_enter Try.func30, Try.ntmps30
  go_wp2
  go_ret
  exact ⟨rfl, rfl⟩

set_option maxRecDepth 100000 in
set_option maxHeartbeats 800000 in
theorem collect_any (Bs Bn b off len cap : Nat) (hlc : len ≤ cap) (hlen : len ≤ 1000000) (w : World) (hbs : Bs < w.heap.size) (hbn : Bn < w.heap.size)
    (hBs : w.cell? ⟨Bs, 0, none⟩ = some (.slice (some ⟨b, off, none⟩) len cap)) (hBn : w.cell? ⟨Bn, 0, none⟩ = some (.int .i64 28)) :
    Calls Try.prog 29 #[.func (.func 51) #[] #[.pointer (some ⟨Bs, 0, none⟩), .pointer (some ⟨Bn, 0, none⟩)]] w fun e W' => ∃ a1 n1 c1, e = .returned (.slice a1 n1 c1) ∧ (n1 = (len + 27) / 28 ∧ Sl W' 1 a1 n1 c1 ((chs b off len ((len + 27) / 28)).map svv) ∧ Below w.heap.size w W') := by
  have HA := Lib.hid (appendSeq_any Bs Bn b off len cap hlc hlen w hbs hbn hBs hBn)
  clear hBs hBn
  go_enter Try.func29, Try.ntmps29
  go_wp2_with (go_at_call 50; refine HA.out.mono ?_; rintro e w1 ⟨v, rfl, hown, hb⟩)
  go_ret
  obtain ⟨a1, c1, rfl⟩ := owns_shape hown
  exact ⟨a1, _, c1, rfl, rfl, (Sl.of_owns hown (by intro u hu; obtain ⟨x, _, rfl⟩ := List.mem_map.1 hu; rfl)).2, hb⟩

/-- The chunks read as the parts of what the slice reads. -/
def chunkL (p : List UInt8) (k : Nat) : List UInt8 := (p.drop (28 * k)).take 28
theorem chv_reads {w : World} {b off len cap : Nat} {p : List UInt8} (h : Sl w 1 (some ⟨b, off, none⟩) len cap (bv p)) (k : Nat) (hk : 28 * k < len) :
    Sl w 1 (chv b off len k).1 (chv b off len k).2.1 (chv b off len k).2.2 (bv (chunkL p k)) := by
  have hl : p.length = len := by have := h.len; rw [bv_length] at this; omega
  have hc := h.cap
  have := h.cut (28 * k) (28 * k + min 28 (len - 28 * k)) (28 * k + min 28 (len - 28 * k)) (by omega) (by omega) (Nat.le_refl _) (by omega)
  rw [if_neg (by omega), Nat.add_sub_cancel_left, Nat.mul_one, Nat.mul_one, bv_take, bv_drop] at this
  have e : (p.take (28 * k + min 28 (len - 28 * k))).drop (28 * k) = chunkL p k := by
    unfold chunkL
    rw [List.drop_take, Nat.add_sub_cancel_left]
    by_cases h28 : 28 ≤ len - 28 * k
    · rw [Nat.min_eq_left h28]
    · rw [Nat.min_eq_right (by omega), List.take_of_length_le (by rw [List.length_drop]; omega), List.take_of_length_le (by rw [List.length_drop]; omega)]
  rw [e] at this
  simpa [chv, Addr.add_lit] using this

/-! ### a slice of byte slices -/
/-- The slice value reads as these byte strings. -/
def Sls (w : World) (a : Option Addr) (n c : Nat) (ls : List (List UInt8)) : Prop :=
  ∃ vs : List Value, Sl w 1 a n c vs ∧ vs.length = ls.length ∧ ∀ (i : Nat) (l : List UInt8), ls[i]? = some l → ∃ a1 n1 c1, vs[i]? = some (Value.slice a1 n1 c1) ∧ Sl w 1 a1 n1 c1 (bv l)
theorem Sls.below {w w' : World} {a : Option Addr} {n c : Nat} {ls : List (List UInt8)} (h : Sls w a n c ls) (hb : Below w.heap.size w w') : Sls w' a n c ls := by
  obtain ⟨vs, h1, h2, h3⟩ := h
  refine ⟨vs, h1.below hb, h2, fun i l hl => ?_⟩
  obtain ⟨a1, n1, c1, h4, h5⟩ := h3 i l hl
  exact ⟨a1, n1, c1, h4, h5.below hb⟩
theorem Sls.len {w : World} {a : Option Addr} {n c : Nat} {ls : List (List UInt8)} (h : Sls w a n c ls) : ls.length = n := by
  obtain ⟨vs, h1, h2, h3⟩ := h
  have := h1.len
  omega
/-- An element is read. -/
theorem Sls.at {w : World} {a : Option Addr} {n c : Nat} {ls : List (List UInt8)} (h : Sls w a n c ls) {i : Nat} (hi : i < ls.length) :
    ∃ b off a1 n1 c1, a = some ⟨b, off, none⟩ ∧ w.cell? ⟨b, off + i, none⟩ = some (.slice a1 n1 c1) ∧ Sl w 1 a1 n1 c1 (bv ls[i]) := by
  obtain ⟨vs, h1, h2, h3⟩ := h
  obtain ⟨a1, n1, c1, h4, h5⟩ := h3 i ls[i] (by rw [List.getElem?_eq_getElem hi])
  obtain ⟨b, off, ha, hc⟩ := h1.at (k := i) (by omega)
  have := hc i (by omega)
  rw [List.getElem?_eq_getElem (by omega)] at h4
  rw [Option.some.inj h4] at this
  exact ⟨b, off, a1, n1, c1, ha, this, h5⟩

/-- Byte strings that are the call's own, one row each, in a row of the call's own: while they are gathered. -/
structure Gat (w : World) (base : Nat) (v : Value) (ls : List (List UInt8)) : Prop where
  ex : ∃ vs : List Value, w.ownsRow base 35 1 v ls.length vs ∧ ∀ (i : Nat) (l : List UInt8), ls[i]? = some l → ∃ a1 n1 c1, vs[i]? = some (Value.slice a1 n1 c1) ∧ w.ownsRow base 5 1 (.slice a1 n1 c1) n1 (bv l)
theorem Gat.nil (w : World) (base : Nat) : Gat w base (.slice none 0 0) [] := ⟨[], World.ownsRow_nil _ _ _ _, fun i l h => by simp at h⟩
theorem owns_below {w w' : World} {base : Nat} {e : TypeId} {es n : Nat} {v : Value} {xs : List Value} (h : w.ownsRow base e es v n xs) (hb : Below w.heap.size w w') : w'.ownsRow base e es v n xs :=
  h.kept (row := none) (grownBy_below hb) (by cases v.ownBlock <;> simp)
theorem Gat.below {w w' : World} {base : Nat} {v : Value} {ls : List (List UInt8)} (h : Gat w base v ls) (hb : Below w.heap.size w w') : Gat w' base v ls := by
  obtain ⟨vs, h1, h2⟩ := h.ex
  refine ⟨vs, owns_below h1 hb, fun i l hl => ?_⟩
  obtain ⟨a1, n1, c1, h3, h4⟩ := h2 i l hl
  exact ⟨a1, n1, c1, h3, owns_below h4 hb⟩
theorem Gat.shape {w : World} {base : Nat} {v : Value} {ls : List (List UInt8)} (h : Gat w base v ls) : ∃ a c, v = .slice a ls.length c := by
  obtain ⟨vs, h1, _⟩ := h.ex
  exact owns_shape h1
theorem Gat.sls {w : World} {base n c : Nat} {a : Option Addr} {ls : List (List UInt8)} (h : Gat w base (.slice a n c) ls) : Sls w a n c ls := by
  obtain ⟨vs, h1, h2⟩ := h.ex
  have hlen : vs.length = ls.length := by have := h1.1; omega
  have hone : ∀ u ∈ vs, u.oneCell' = true := by
    intro u hu
    obtain ⟨i, hi, rfl⟩ := List.getElem_of_mem hu
    obtain ⟨a1, n1, c1, h3, _⟩ := h2 i ls[i] (by rw [List.getElem?_eq_getElem (by omega)])
    rw [List.getElem?_eq_getElem hi] at h3
    rw [Option.some.inj h3]
    rfl
  obtain ⟨h4, h5⟩ := Sl.of_owns h1 hone
  refine ⟨vs, h5, hlen, fun i l hl => ?_⟩
  obtain ⟨a1, n1, c1, h6, h7⟩ := h2 i l hl
  exact ⟨a1, n1, c1, h6, (Sl.of_owns h7 (bv_one _)).2⟩
/-- Rows of different element types are different blocks. -/
theorem rows_apart {w : World} {base base' n n' es es' : Nat} {e e' : TypeId} {v v' : Value} {xs xs' : List Value} (h : w.ownsRow base e es v n xs) (h' : w.ownsRow base' e' es' v' n' xs') (hne : e ≠ e') : v = .slice none 0 0 ∨ v.ownBlock ≠ v'.ownBlock := by
  rcases h.2 with ⟨rfl, _⟩ | ⟨g, cap, cur, rfl, _, hg, _⟩
  · exact .inl rfl
  · refine .inr fun hb => ?_
    rcases h'.2 with ⟨rfl, _⟩ | ⟨g', cap', cur', rfl, _, hg', _⟩
    · simp [Value.ownBlock] at hb
    · simp only [Value.ownBlock, Option.some.injEq] at hb
      subst hb
      rw [hg] at hg'
      simp only [Option.some.injEq, Obj.cells.injEq] at hg'
      exact hne hg'.2.1
/-- One more is gathered. -/
theorem Gat.push {w w1 : World} {base : Nat} {v v' : Value} {ls : List (List UInt8)} {a2 : Option Addr} {n2 c2 : Nat} {l : List UInt8} {tmp : Obj} {vs : List Value} (h1 : w.ownsRow base 35 1 v ls.length vs)
    (h2 : ∀ (i : Nat) (l : List UInt8), ls[i]? = some l → ∃ a1 n1 c1, vs[i]? = some (Value.slice a1 n1 c1) ∧ w.ownsRow base 5 1 (.slice a1 n1 c1) n1 (bv l)) (hl : w.ownsRow base 5 1 (.slice a2 n2 c2) n2 (bv l))
    (hown : w1.ownsRow base 35 1 v' (ls.length + 1) (vs ++ [.slice a2 n2 c2])) (hg : (w.alloc tmp).grownBy w1 v.ownBlock) : Gat w1 base v' (ls ++ [l]) := by
  have hlen : vs.length = ls.length := by have := h1.1; omega
  have hkeep : ∀ {a1 : Option Addr} {n1 c1 : Nat} {m : List UInt8}, w.ownsRow base 5 1 (.slice a1 n1 c1) n1 (bv m) → w1.ownsRow base 5 1 (.slice a1 n1 c1) n1 (bv m) := by
    intro a1 n1 c1 m hm
    refine World.ownsRow.kept (hm.alloc tmp) hg ?_
    rcases rows_apart hm h1 (by decide) with h' | h'
    · exact .inl (by rw [h']; rfl)
    · exact .inr h'
  refine ⟨_, by simpa using hown, fun i m hm => ?_⟩
  by_cases hi : i < ls.length
  · rw [List.getElem?_append_left hi] at hm
    obtain ⟨a1, n1, c1, h3, h4⟩ := h2 i m hm
    exact ⟨a1, n1, c1, by rw [List.getElem?_append_left (by omega)]; exact h3, hkeep h4⟩
  · have : i = ls.length := by
      have := (List.getElem?_eq_some_iff.1 hm).1
      simp at this
      omega
    subst this
    rw [List.getElem?_append_right (Nat.le_refl _), Nat.sub_self] at hm
    obtain rfl : l = m := by simpa using hm
    exact ⟨a2, n2, c2, by rw [← hlen, List.getElem?_append_right (Nat.le_refl _), Nat.sub_self]; rfl, hkeep hl⟩

/-- append to a row of byte slices of the call's own. -/
theorem wpList_appendS (w : World) {ops : Array Oper} {rest : List Oper} {o : Oper} {a : Act} {Q : Exit → Act → World → Prop} (hgd : o.guard = none) (s x : Operand)
    (ho : o.op = .call { callee := .builtin .append, args := #[s, x], argTypes := #[31, 31] })
    (base : Nat) (v : Value) (n : Nat) (xs : List Value) (hs : a.eval s = v) (hown : w.ownsRow base 35 1 v n xs)
    (ax : Option Addr) (m c : Nat) (news : List Value) (hx : a.eval x = .slice ax m c) (hsl : Sl w 1 ax m c news)
    (hb : n + m ≤ 1000000) (hbase : base ≤ w.heap.size)
    (h : ∀ a' c' w', w'.ownsRow base 35 1 (.slice a' (n + m) c') (n + m) (xs ++ news) → w.grownBy w' v.ownBlock → wpList Try.prog ops Q rest (a.put o.dst (.slice a' (n + m) c')) w') : wpList Try.prog ops Q (o :: rest) a w :=
  wpList_plain hgd fun K hK => by
    obtain ⟨i0, hi, hz0, hz1, hz2⟩ := info_parts info_bs
    exact wp_append_sl w s x 31 ho base 35 i0 (.slice none 0 0) 1 24 Try.underlying31 hi hz0 hz1 hz2 rfl (by decide) v n xs hs hown ax m c news hx hsl (by unfold maxLen; omega) (by omega) hbase (fun a' c' w' h1 h2 => hK _ _ (h a' c' w' h1 h2))

/-! ### the sectors -/
def sectorL (gen disk i n : Nat) (ch : List UInt8) : List UInt8 := sealL ([76] ++ numsL [gen, disk, i, n] ++ (uvarint ch.length ++ ch))
def partsN (p : List UInt8) : Nat := (p.length + 27) / 28
def cutL (gen disk : Nat) (p : List UInt8) : List (List UInt8) := (List.range (partsN p)).map fun i => sectorL gen disk i (partsN p) (chunkL p i)

theorem cutL_length (gen disk : Nat) (p : List UInt8) : (cutL gen disk p).length = partsN p := by simp [cutL]
theorem cutL_take {gen disk : Nat} {p : List UInt8} {i : Nat} (h : i < partsN p) : (cutL gen disk p).take i ++ [sectorL gen disk i (partsN p) (chunkL p i)] = (cutL gen disk p).take (i + 1) := by
  rw [List.take_succ_eq_append_getElem (by rw [cutL_length]; exact h)]
  simp [cutL]
theorem chunkL_length (p : List UInt8) (k : Nat) : (chunkL p k).length ≤ 28 := by unfold chunkL; rw [List.length_take]; omega
theorem payloadL_pos (l : Lb) : 1 ≤ (payloadL l).length := by
  have := uvarint_pos (deadL l.dead).length
  unfold payloadL
  simp only [List.length_append]
  omega
def encL (l : Lb) : List (List UInt8) := if l.valid then cutL l.gen.toNat l.dk.toNat (payloadL l) else []

end Go.Proofs.Ytjjknjkpkoeelaa
