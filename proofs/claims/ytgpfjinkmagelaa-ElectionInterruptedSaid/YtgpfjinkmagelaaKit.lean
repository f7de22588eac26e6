/- Words used by all texts of this seat, over any program: a slice that reads as a list of cells ('Sl'), bytes as cells ('bv'), one law on append for whatever source, laws on cutting a slice. -/
import Derived.WalkKit
import Derived.Lib.Hide
import Derived.WalkSpells
import Derived.WalkLawsBesides
import Derived.Laws.AppendOwnNone
import Derived.WalkSmall
import Derived.Deep.QuietTactic
import Derived.BigQuiet
import Derived.Deep.RegionLaw
import Derived.Deep.MidRow
set_option linter.unusedVariables false
namespace Go.Proofs.Ytgpfjinkmagelaa
open Go Go.RowKit

/-- The slice value '.slice a n c' reads, in the world w, as the list of cells l (an element takes es cells). -/
structure Sl (w : World) (es : Nat) (a : Option Addr) (n c : Nat) (l : List Value) : Prop where
  len : l.length = n * es
  cap : n ≤ c
  max : c ≤ maxLen
  nil : a = none → n = 0 ∧ c = 0
  cell : ∀ ad, a = some ad → ∀ j u, l[j]? = some u → w.cell? (ad.add j) = some u
  one : ∀ u ∈ l, u.oneCell' = true

/-- Bytes as cells. -/
def bv (l : List UInt8) : List Value := l.map fun b => Value.int .u8 (b.toNat : Int)

theorem bv_length (l : List UInt8) : (bv l).length = l.length := by simp [bv]
theorem bv_append (l m : List UInt8) : bv (l ++ m) = bv l ++ bv m := by simp [bv]
theorem bv_take (l : List UInt8) (k : Nat) : (bv l).take k = bv (l.take k) := by simp [bv, List.map_take]
theorem bv_drop (l : List UInt8) (k : Nat) : (bv l).drop k = bv (l.drop k) := by simp [bv, List.map_drop]
theorem bv_one (l : List UInt8) : ∀ u ∈ bv l, u.oneCell' = true := by
  intro u hu
  obtain ⟨_, _, rfl⟩ := List.mem_map.1 hu
  rfl
theorem bv_get (l : List UInt8) (k : Nat) (h : k < l.length) : (bv l)[k]? = some (.int .u8 (l[k].toNat : Int)) := by
  simp [bv, h]
theorem bv_inj {l m : List UInt8} (h : bv l = bv m) : l = m := by
  induction l generalizing m with
  | nil => cases m with
    | nil => rfl
    | cons _ _ => simp [bv] at h
  | cons a l ih => cases m with
    | nil => simp [bv] at h
    | cons b m =>
      simp only [bv, List.map_cons, List.cons.injEq, Value.int.injEq, true_and] at h
      rw [ih h.2, UInt8.toNat_inj.1 (show a.toNat = b.toNat by omega)]

theorem Sl.none_nil {w : World} {es n c : Nat} {l : List Value} (h : Sl w es none n c l) : n = 0 ∧ c = 0 ∧ l = [] := by
  obtain ⟨rfl, rfl⟩ := h.nil rfl
  exact ⟨rfl, rfl, List.eq_nil_of_length_eq_zero (by simpa using h.len)⟩

theorem Sl.nilv (w : World) (es : Nat) : Sl w es none 0 0 [] :=
  ⟨by simp, Nat.le_refl _, Nat.zero_le _, fun _ => ⟨rfl, rfl⟩, fun _ h => (by cases h), fun _ h => (by cases h)⟩

/-- Where an element is read the slice is not nil, and the cell is there. -/
theorem Sl.at {w : World} {a : Option Addr} {n c : Nat} {l : List Value} {es : Nat} (h : Sl w es a n c l) {k : Nat} (hk : k < l.length) :
    ∃ b off, a = some ⟨b, off, none⟩ ∧ ∀ j (hj : j < l.length), w.cell? ⟨b, off + j, none⟩ = some l[j] := by
  cases a with
  | none => have := h.none_nil.2.2; subst this; simp at hk
  | some ad =>
    have h0 := h.cell ad rfl k l[k] (by simp [hk])
    obtain ⟨b, off, spot⟩ := ad
    have hs : spot = none := by
      by_cases hk0 : k = 0
      · subst hk0
        have := World.cell?_spot h0
        simpa [Addr.add] using this
      · have hl0 := h.cell _ rfl 0 l[0] (by simp)
        have := World.cell?_spot hl0
        simpa [Addr.add] using this
    subst hs
    refine ⟨b, off, rfl, fun j hj => ?_⟩
    have := h.cell _ rfl j l[j] (by simp [hj])
    rwa [Addr.add_lit] at this

theorem Sl.drew {w : World} {a : Option Addr} {n c : Nat} {l : List Value} {es : Nat} (h : Sl w es a n c l) : Sl w.drew es a n c l :=
  ⟨h.len, h.cap, h.max, h.nil, h.cell, h.one⟩

theorem Sl.drewN {w : World} {a : Option Addr} {n c : Nat} {l : List Value} {es : Nat} (h : Sl w es a n c l) (k : Nat) : Sl (w.drewN k) es a n c l :=
  ⟨h.len, h.cap, h.max, h.nil, h.cell, h.one⟩

/-- What was read stays read where its blocks have not turned. -/
theorem Sl.keep {w w' : World} {a : Option Addr} {n c : Nat} {l : List Value} {es : Nat} (h : Sl w es a n c l)
    (hb : ∀ k, k < w.heap.size → (∀ ad, a = some ad → k = ad.block → w'.heap[k]? = w.heap[k]?)) : Sl w' es a n c l := by
  refine ⟨h.len, h.cap, h.max, h.nil, fun ad had j u hu => ?_, h.one⟩
  have hc := h.cell ad had j u hu
  have hlt := World.block_lt_of_cell? w _ hc
  have hblk : (ad.add j).block = ad.block := by unfold Addr.add; split <;> rfl
  rw [hblk] at hlt
  have := hb ad.block hlt ad had rfl
  rw [World.cell?_of_block (w := w) (by rw [hblk]; exact this)]
  exact hc

theorem Sl.below {w w' : World} {a : Option Addr} {n c : Nat} {l : List Value} {es : Nat} (h : Sl w es a n c l) (hb : Below w.heap.size w w') : Sl w' es a n c l :=
  h.keep fun k hk _ _ _ => hb.block k hk

/-- A row of the call's own reads as its cells. -/
theorem Sl.of_owns {w : World} {base e es n c k : Nat} {a : Option Addr} {l : List Value} (h : w.ownsRow base e es (.slice a n c) k l) (h1 : ∀ u ∈ l, u.oneCell' = true) : n = k ∧ Sl w es a n c l := by
  rcases h.2 with ⟨hv, hk⟩ | ⟨g, cap, cur, hv, hb, hg, hnc, hcm, hcs, htake⟩
  · simp only [Value.slice.injEq] at hv
    obtain ⟨rfl, rfl, rfl⟩ := hv
    have hl : l = [] := List.eq_nil_of_length_eq_zero (by rw [h.1, hk]; simp)
    subst hl
    exact ⟨hk.symm, Sl.nilv w es⟩
  · simp only [Value.slice.injEq] at hv
    obtain ⟨rfl, rfl, rfl⟩ := hv
    refine ⟨rfl, h.1, hnc, hcm, fun hn => (by cases hn), fun ad had j u hu => ?_, h1⟩
    obtain rfl := Option.some.inj had
    exact h.cells (g := g) rfl j u hu

/-- The shape of an owned value. -/
theorem owns_shape {w : World} {base e es k : Nat} {v : Value} {l : List Value} (h : w.ownsRow base e es v k l) : ∃ a c, v = .slice a k c := by
  rcases h.2 with ⟨rfl, rfl⟩ | ⟨g, cap, cur, rfl, _⟩
  · exact ⟨none, 0, rfl⟩
  · exact ⟨_, _, rfl⟩

/-! ### append, whatever is appended -/

theorem wp_append_sl {P : Program} (w : World) {o : Oper} {a : Act} {K : Act → World → Prop} {Q : Exit → Act → World → Prop} (s x : Operand) (t : TypeId)
    (ho : o.op = .call { callee := .builtin .append, args := #[s, x], argTypes := #[t, t] })
    (base : Nat) (e : TypeId) (i : TypeInfo) (z : Value) (size bytes : Nat) (ht : P.underlying t = some (.slice e)) (hi : P.info? e = some i) (hz : i.zero = some z)
    (hsize : i.size = size) (hby : i.bytes = bytes) (hzs : z.cells.size = size) (hsz : 0 < size)
    (v : Value) (n : Nat) (xs : List Value) (hs : a.eval s = v) (hown : w.ownsRow base e size v n xs)
    (ax : Option Addr) (m c : Nat) (news : List Value) (hx : a.eval x = .slice ax m c) (hsl : Sl w size ax m c news)
    (h63 : n + m ≤ maxLen) (hbytes : (n + m) * bytes ≤ 140737488355328) (hbase : base ≤ w.heap.size)
    (h : ∀ a' c' w', w'.ownsRow base e size (.slice a' (n + m) c') (n + m) (xs ++ news) → w.grownBy w' v.ownBlock → K (a.put o.dst (.slice a' (n + m) c')) w') : o.wp P a w K Q := by
  cases ax with
  | none =>
    obtain ⟨rfl, rfl, rfl⟩ := hsl.none_nil
    obtain ⟨a', c', rfl⟩ := owns_shape hown
    have hrun := run_append_owned_none (P := P) w base t o.type e i size ht hi _ n xs hown
    unfold Oper.wp execOp
    simp only [ho, resolve, invoke, builtin, Sem.run_bind, Sem.run_pure, Result.andThen_ok, List.map_toArray, List.map_cons, List.map_nil, hs, hx, hrun]
    exact h a' c' w (by simpa using hown) (World.grownBy.refl _ _)
  | some ad =>
    refine wp_append_own w s x t ho base e i z size bytes ht hi hz hsize hby hzs hsz v n xs hs hown ad m c news hx hsl.len (hsl.cell ad rfl) hsl.one h63 hbytes hbase fun v' w' h2 h3 _ => ?_
    obtain ⟨a', c', rfl⟩ := owns_shape h2
    exact h a' c' w' h2 h3

theorem ownsRow_base {w : World} {b b' : Nat} {e : TypeId} {es : Nat} {v : Value} {n : Nat} {xs : List Value} (h : w.ownsRow b e es v n xs) (hb : b' ≤ b) : w.ownsRow b' e es v n xs := by
  refine ⟨h.1, ?_⟩
  rcases h.2 with h2 | ⟨g, cap, cur, hv, hg, r⟩
  · exact Or.inl h2
  · exact Or.inr ⟨g, cap, cur, hv, by omega, r⟩

/-- A slice literal of the call's own. -/
theorem Sl.lit (w : World) (cs : Array Value) (e : TypeId) (n : Nat) (hn : cs.size = n) (hm : n ≤ maxLen) (h1 : ∀ u ∈ cs.toList, u.oneCell' = true) :
    Sl (w.alloc (.cells cs e)) 1 (some ⟨w.heap.size, 0, none⟩) n n cs.toList :=
  (Sl.of_owns (World.ownsRow_lit (base := 0) (e := e) (size := 1) w cs n (Nat.zero_le _) hm (by omega)) h1).2

theorem Sl.single (w : World) (u : Value) (e : TypeId) (h1 : u.oneCell' = true) : Sl (w.alloc (.cells #[u] e)) 1 (some ⟨w.heap.size, 0, none⟩) 1 1 [u] :=
  Sl.lit w #[u] e 1 rfl (by decide) (by simpa using h1)

theorem Sl.byte (w : World) (e : TypeId) (x : Int) (b : UInt8) (hx : x = (b.toNat : Int)) : Sl (w.alloc (.cells #[.int .u8 x] e)) 1 (some ⟨w.heap.size, 0, none⟩) 1 1 (bv [b]) := by
  subst hx
  exact Sl.single w _ e rfl

/-- The same, the block's number spelled otherwise. -/
theorem Sl.lit' (w : World) (cs : Array Value) (e : TypeId) (n g : Nat) (hg : g = w.heap.size) (hn : cs.size = n) (hm : n ≤ maxLen) (h1 : ∀ u ∈ cs.toList, u.oneCell' = true) :
    Sl (w.alloc (.cells cs e)) 1 (some ⟨g, 0, none⟩) n n cs.toList := by subst hg; exact Sl.lit w cs e n hn hm h1
theorem Sl.byte' (w : World) (e : TypeId) (x : Int) (b : UInt8) (g : Nat) (hg : g = w.heap.size) (hx : x = (b.toNat : Int)) : Sl (w.alloc (.cells #[.int .u8 x] e)) 1 (some ⟨g, 0, none⟩) 1 1 (bv [b]) := by
  subst hg; exact Sl.byte w e x b hx

/-- The empty literal: a row of the call's own, with no cell. -/
theorem owns_empty (w : World) (base : Nat) (e : TypeId) (es : Nat) (hb : base ≤ w.heap.size) : (w.alloc (.cells #[] e)).ownsRow base e es (.slice (some ⟨w.heap.size, 0, none⟩) 0 0) 0 [] :=
  World.ownsRow_made w #[] 0 hb (Nat.zero_le _) (by simp)

theorem owns_empty' (w : World) (base : Nat) (e : TypeId) (es g : Nat) (hg : g = w.heap.size) (hb : base ≤ w.heap.size) : (w.alloc (.cells #[] e)).ownsRow base e es (.slice (some ⟨g, 0, none⟩) 0 0) 0 [] := by
  subst hg; exact owns_empty w base e es hb

/-! ### cutting a slice -/

theorem Sl.cut {w : World} {es : Nat} {a : Option Addr} {n c : Nat} {l : List Value} (h : Sl w es a n c l) (lo hi mx : Nat) (h1 : lo ≤ hi) (h2 : hi ≤ n) (h3 : hi ≤ mx) (h4 : mx ≤ c) :
    Sl w es (if mx = lo then a else a.map (·.add (lo * es))) (hi - lo) (mx - lo) ((l.take (hi * es)).drop (lo * es)) := by
  have hlen : ((l.take (hi * es)).drop (lo * es)).length = (hi - lo) * es := by
    rw [List.length_drop, List.length_take, h.len, Nat.min_eq_left (Nat.mul_le_mul_right _ h2), Nat.sub_mul]
  refine ⟨hlen, by omega, by have := h.max; omega, ?_, ?_, ?_⟩
  · intro hn
    have han : a = none := by
      split at hn
      · exact hn
      · simpa using hn
    have := h.nil han
    omega
  · intro ad had j u hu
    have hj : j < (hi - lo) * es := by rw [← hlen]; exact (List.getElem?_eq_some_iff.1 hu).1
    have hpos : lo < hi := by
      rcases Nat.lt_or_ge lo hi with h' | h'
      · exact h'
      · rw [show hi - lo = 0 by omega] at hj; omega
    rw [if_neg (by omega)] at had
    obtain ⟨ad0, rfl, rfl⟩ := Option.map_eq_some_iff.1 had
    have hu' : l[lo * es + j]? = some u := by
      rw [List.getElem?_drop, List.getElem?_take] at hu
      split at hu
      · exact hu
      · cases hu
    have := h.cell ad0 rfl _ u hu'
    rw [show (ad0.add (lo * es)).add j = ad0.add (lo * es + j) from ?_]
    · exact this
    · unfold Addr.add
      split <;> split <;> split <;> simp_all <;> omega
  · intro u hu
    exact h.one u (List.mem_of_mem_take (List.mem_of_mem_drop hu))

section
variable {P : Program}

/-- 's[lo:hi]', 's[:hi]', 's[lo:]', 's[lo:hi:mx]' of a slice that reads: one value for every world, which reads as what is cut out. -/
theorem Sl.run_h {w : World} {es : Nat} {a : Option Addr} {n c : Nat} {l : List Value} (h : Sl w es a n c l) (t e : TypeId) (i : TypeInfo) (ht : P.underlying t = some (.slice (P.elem t))) (he : P.elem t = e) (hi : P.info? e = some i) (hs : i.size = es)
    (k : Nat) (hk : k ≤ n) :
    ∃ a', (∀ wx, (Instr.slice t (.slice a n c) none (some (.int .i64 (k : Int))) none).run P wx = .ok (.slice a' k c) wx) ∧ Sl w es a' k c (l.take (k * es)) := by
  have hc := h.cap
  refine ⟨_, fun wx => ?_, by simpa using h.cut 0 k c (Nat.zero_le _) hk (by omega) (Nat.le_refl _)⟩
  subst he
  rw [run_slice_h wx t a n c ht .i64 k (by omega) (by omega)]
  simp [sizeOf, typeInfo, hi, hs, sliced]

theorem Sl.run_lh {w : World} {es : Nat} {a : Option Addr} {n c : Nat} {l : List Value} (h : Sl w es a n c l) (t e : TypeId) (i : TypeInfo) (ht : P.underlying t = some (.slice (P.elem t))) (he : P.elem t = e) (hi : P.info? e = some i) (hs : i.size = es)
    (lo k : Nat) (hlo : lo ≤ k) (hk : k ≤ n) :
    ∃ a', (∀ wx, (Instr.slice t (.slice a n c) (some (.int .i64 (lo : Int))) (some (.int .i64 (k : Int))) none).run P wx = .ok (.slice a' (k - lo) (c - lo)) wx) ∧ Sl w es a' (k - lo) (c - lo) ((l.take (k * es)).drop (lo * es)) := by
  have hc := h.cap
  refine ⟨_, fun wx => ?_, h.cut lo k c hlo hk (by omega) (Nat.le_refl _)⟩
  subst he
  rw [run_slice_lh wx t a n c ht .i64 .i64 lo k (by omega) (by omega) (by omega)]
  simp [sizeOf, typeInfo, hi, hs, sliced]

theorem Sl.run_l {w : World} {es : Nat} {a : Option Addr} {n c : Nat} {l : List Value} (h : Sl w es a n c l) (t e : TypeId) (i : TypeInfo) (ht : P.underlying t = some (.slice (P.elem t))) (he : P.elem t = e) (hi : P.info? e = some i) (hs : i.size = es) (k : IntKind)
    (lo : Nat) (hlo : lo ≤ n) :
    ∃ a', (∀ wx, (Instr.slice t (.slice a n c) (some (.int k (lo : Int))) none none).run P wx = .ok (.slice a' (n - lo) (c - lo)) wx) ∧ Sl w es a' (n - lo) (c - lo) (l.drop (lo * es)) := by
  have hc := h.cap
  have hcut := h.cut lo n c hlo (Nat.le_refl _) hc (Nat.le_refl _)
  rw [List.take_of_length_le (by rw [h.len]; exact Nat.le_refl _)] at hcut
  refine ⟨_, fun wx => ?_, hcut⟩
  subst he
  rw [run_slice_l wx t a n c ht k lo (by omega) (by omega)]
  simp [sizeOf, typeInfo, hi, hs, sliced]

theorem Sl.run_hm {w : World} {es : Nat} {a : Option Addr} {n c : Nat} {l : List Value} (h : Sl w es a n c l) (t e : TypeId) (i : TypeInfo) (ht : P.underlying t = some (.slice (P.elem t))) (he : P.elem t = e) (hi : P.info? e = some i) (hs : i.size = es) (kh km : IntKind)
    (k : Nat) (hk : k ≤ n) :
    ∃ a', (∀ wx, (Instr.slice t (.slice a n c) none (some (.int kh (k : Int))) (some (.int km (k : Int)))).run P wx = .ok (.slice a' k k) wx) ∧ Sl w es a' k k (l.take (k * es)) ∧ (∀ ad, a' = some ad → ∃ ad0, a = some ad0 ∧ ad.block = ad0.block) := by
  have hc := h.cap
  refine ⟨_, fun wx => ?_, by simpa using h.cut 0 k k (Nat.zero_le _) hk (by omega) (by omega), ?_⟩
  · subst he
    rw [run_slice_hm wx t a n c ht kh km k k (by omega) (by omega) (by omega)]
    simp [sizeOf, typeInfo, hi, hs, sliced]
  · intro ad had
    split at had
    · exact ⟨ad, had, rfl⟩
    · obtain ⟨ad0, e0, rfl⟩ := Option.map_eq_some_iff.1 had
      exact ⟨ad0, e0, by unfold Addr.add; split <;> rfl⟩

theorem Sl.run_l' {w : World} {es : Nat} {a : Option Addr} {n c : Nat} {l : List Value} (h : Sl w es a n c l) (t e : TypeId) (i : TypeInfo) (ht : P.underlying t = some (.slice (P.elem t))) (he : P.elem t = e) (hi : P.info? e = some i) (hs : i.size = es) (k : IntKind)
    (lo : Nat) (hlo : lo ≤ n) :
    ∃ a', (∀ wx, (Instr.slice t (.slice a n c) (some (.int k (lo : Int))) none none).run P wx = .ok (.slice a' (n - lo) (c - lo)) wx) ∧ Sl w es a' (n - lo) (c - lo) (l.drop (lo * es)) ∧ (∀ ad, a' = some ad → ∃ ad0, a = some ad0 ∧ ad.block = ad0.block) := by
  have hc := h.cap
  have hcut := h.cut lo n c hlo (Nat.le_refl _) hc (Nat.le_refl _)
  rw [List.take_of_length_le (by rw [h.len]; exact Nat.le_refl _)] at hcut
  refine ⟨_, fun wx => ?_, hcut, ?_⟩
  · subst he
    rw [run_slice_l wx t a n c ht k lo (by omega) (by omega)]
    simp [sizeOf, typeInfo, hi, hs, sliced]
  · intro ad had
    split at had
    · exact ⟨ad, had, rfl⟩
    · obtain ⟨ad0, e0, rfl⟩ := Option.map_eq_some_iff.1 had
      exact ⟨ad0, e0, by unfold Addr.add; split <;> rfl⟩

end

/-! ### one block that is written -/

theorem grownBy_setCell (w : World) (q i : Nat) (v : Value) : w.grownBy (w.setCell ⟨q, i, none⟩ v) (some q) :=
  ⟨rfl, rfl, rfl, by simp [World.setCell], fun k _ hk => Below.heap_setCell _ _ _ _ (fun e => hk (by simpa using e))⟩

theorem grownBy_trans {a b c : World} {row : Option Nat} (h : a.grownBy b row) (h' : b.grownBy c row) : a.grownBy c row :=
  ⟨h'.os.trans h.os, h'.tape.trans h.tape, h'.output.trans h.output, Nat.le_trans h.size h'.size,
    fun k hk hne => (h'.block k (Nat.lt_of_lt_of_le hk h.size) hne).trans (h.block k hk hne)⟩

theorem grownBy_below {a b : World} {row : Option Nat} (h : Below a.heap.size a b) : a.grownBy b row :=
  ⟨h.os, h.tape, h.output, h.size, fun k hk _ => h.block k hk⟩

theorem grownBy_drew {a b : World} {row : Option Nat} (h : a.grownBy b row) : a.grownBy b.drew row := ⟨h.os, h.tape, h.output, h.size, h.block⟩
theorem grownBy_drewN {a b : World} {row : Option Nat} (h : a.grownBy b row) (n : Nat) : a.grownBy (b.drewN n) row := ⟨h.os, h.tape, h.output, h.size, h.block⟩

theorem Below.of_grown {a b : World} {q B : Nat} (h : a.grownBy b (some q)) (hq : B ≤ q) (hB : B ≤ a.heap.size) : Below B a b :=
  (Below.refl B a).grown h hB (fun k e => by cases e; exact hq)

/-! ### bytes and strings -/

/-- A string of these bytes. -/
def strB (l : List UInt8) : ByteArray := ⟨l.toArray⟩

theorem strB_inj {l m : List UInt8} (h : strB l = strB m) : l = m := by
  have := congrArg (fun b => b.data.toList) h
  simpa [strB] using this

theorem strB_list (l : List UInt8) : (strB l).toList = l := by rw [ByteArray.toList_eq]; simp [strB]
theorem strB_toList (l : List UInt8) : (strB l).data.toList = l := by simp [strB]

theorem Sl.run_str {P : Program} {w : World} {a : Option Addr} {n c : Nat} {l : List UInt8} (h : Sl w 1 a n c (bv l)) (src e dst : TypeId) (hs : P.underlying src = some (.slice e)) (he : P.underlying e = some (.int .u8)) (hd : P.underlying dst = some .string) :
    (convert src dst (.slice a n c)).run P w = .ok (.string (strB l)) w := by
  have hlen := h.len
  rw [bv_length] at hlen
  cases a with
  | none =>
    obtain ⟨rfl, rfl, hl⟩ := h.none_nil
    rw [run_convert_bytes_nil w src e hs he 0 0 dst hd]
    have : l = [] := by simpa [bv] using hl
    subst this
    rfl
  | some ad =>
    have hl : (loadCells ad (bv l).length).run P w = .ok (bv l).toArray w := run_loadCells_list (P := P) w ad (bv l) (h.cell ad rfl)
    rw [run_convert_bytes_string w src dst e _ n c hs he hd, run_bytesToString w ad n c (l.map fun b => (b.toNat : Int)) (by
      rw [bv_length, show l.length = n by omega] at hl
      rw [hl]
      simp [bv]), foldl_push_bytes]
    congr 2
    simp only [strB, ByteArray.empty, ByteArray.emptyWithCapacity, List.map_map]
    congr 1
    simp [Function.comp_def]
    rfl

/-! ### a reader behind a pointer: its bytes and its flag; 'none': it has failed -/

structure Rdr (w : World) (T lo hi q : Nat) (s : Option (List UInt8)) : Prop where
  lo_le : lo ≤ q
  lt_hi : q < hi
  hi_le : hi ≤ w.heap.size
  short : (s.getD []).length ≤ 1000000
  ex : ∃ a n c, w.heap[q]? = some (.cells #[.slice a n c, .bool s.isNone] T (0, 0)) ∧ Sl w 1 a n c (bv (s.getD [])) ∧ (∀ ad, a = some ad → lo ≤ ad.block ∧ ad.block < hi ∧ ad.block ≠ q)

theorem Rdr.keep {w w' : World} {T lo hi q : Nat} {s : Option (List UInt8)} (h : Rdr w T lo hi q s) (hs : w.heap.size ≤ w'.heap.size)
    (hb : ∀ k, lo ≤ k → k < hi → w'.heap[k]? = w.heap[k]?) : Rdr w' T lo hi q s := by
  obtain ⟨a, n, c, h1, h2, h3⟩ := h.ex
  refine ⟨h.lo_le, h.lt_hi, Nat.le_trans h.hi_le hs, h.short, a, n, c, ?_, ?_, h3⟩
  · rw [hb q h.lo_le h.lt_hi]; exact h1
  · refine h2.keep fun k _ ad had e => ?_
    subst e
    have := h3 ad had
    exact hb _ this.1 this.2.1

theorem Rdr.below {w w' : World} {T lo hi q B : Nat} {s : Option (List UInt8)} (h : Rdr w T lo hi q s) (hb : Below B w w') (hB : hi ≤ B) : Rdr w' T lo hi q s :=
  h.keep hb.size fun k _ hk => hb.block k (by omega)

theorem Rdr.other {w w' : World} {T lo hi q q' : Nat} {s : Option (List UInt8)} (h : Rdr w T lo hi q s) (hb : w.grownBy w' (some q')) (hq : q' < lo ∨ hi ≤ q') : Rdr w' T lo hi q s :=
  h.keep hb.size fun k h1 h2 => hb.block k (by have := h.hi_le; omega) (by intro e; simp only [Option.some.injEq] at e; omega)

theorem Rdr.drew {w : World} {T lo hi q : Nat} {s : Option (List UInt8)} (h : Rdr w T lo hi q s) : Rdr w.drew T lo hi q s := h.keep (Nat.le_refl _) fun _ _ _ => rfl
theorem Rdr.drewN {w : World} {T lo hi q : Nat} {s : Option (List UInt8)} (h : Rdr w T lo hi q s) (n : Nat) : Rdr (w.drewN n) T lo hi q s := h.keep (Nat.le_refl _) fun _ _ _ => rfl

/-- What the walk asks of a reader's block. -/
theorem pair_cells {w : World} {q T : Nat} {x y : Value} (h : w.heap[q]? = some (.cells #[x, y] T (0, 0))) :
    w.cell? ⟨q, 0, none⟩ = some x ∧ w.cell? ⟨q, 1, none⟩ = some y ∧ (∀ i, w.frozen? ⟨q, i, none⟩ = false) := by
  refine ⟨?_, ?_, fun i => frozen_of_row w q i _ T h⟩
  · rw [cell_of_row w q 0 _ T _ h]; rfl
  · rw [cell_of_row w q 1 _ T _ h]; rfl

theorem pair_set0 {w : World} {q T : Nat} {x y : Value} (h : w.heap[q]? = some (.cells #[x, y] T (0, 0))) (v : Value) :
    (w.setCell ⟨q, 0, none⟩ v).heap[q]? = some (.cells #[v, y] T (0, 0)) := by
  rw [heap_setCell_same w q 0 _ T v h]; simp
theorem pair_set1 {w : World} {q T : Nat} {x y : Value} (h : w.heap[q]? = some (.cells #[x, y] T (0, 0))) (v : Value) :
    (w.setCell ⟨q, 1, none⟩ v).heap[q]? = some (.cells #[x, v] T (0, 0)) := by
  rw [heap_setCell_same w q 1 _ T v h]; simp

/-- A reader whose bytes are cut. -/
theorem Rdr.set {w : World} {T lo hi q : Nat} {s : Option (List UInt8)} (h : Rdr w T lo hi q s) {a : Option Addr} {n c : Nat} {l : List UInt8} (hsl : Sl w 1 a n c (bv l)) (hl : l.length ≤ 1000000)
    (ha : ∀ ad, a = some ad → lo ≤ ad.block ∧ ad.block < hi ∧ ad.block ≠ q) (hs : s.isNone = false) : Rdr (w.setCell ⟨q, 0, none⟩ (.slice a n c)) T lo hi q (some l) := by
  obtain ⟨a0, n0, c0, h1, h2, h3⟩ := h.ex
  rw [hs] at h1
  refine ⟨h.lo_le, h.lt_hi, by simpa [World.setCell] using h.hi_le, hl, a, n, c, pair_set0 h1 _, ?_, ha⟩
  exact hsl.keep fun k _ ad had e => Below.heap_setCell _ _ _ _ (by subst e; exact (ha ad had).2.2)

/-- A reader that fails. -/
theorem Rdr.fail {w : World} {T lo hi q : Nat} {s : Option (List UInt8)} (h : Rdr w T lo hi q s) : Rdr ((w.setCell ⟨q, 0, none⟩ (.slice none 0 0)).setCell ⟨q, 1, none⟩ (.bool true)) T lo hi q none := by
  obtain ⟨a0, n0, c0, h1, h2, h3⟩ := h.ex
  exact ⟨h.lo_le, h.lt_hi, by simpa [World.setCell] using h.hi_le, by simp, none, 0, 0, pair_set1 (pair_set0 h1 _) _, Sl.nilv _ _, fun ad e => by cases e⟩

theorem ret2_int {k k' : IntKind} {a b c d : Int} (h : a = b) (h' : c = d) : Ending.returned (.tuple #[.int k a, .int k' c]) = .returned (.tuple #[.int k b, .int k' d]) := by rw [h, h']
theorem ret_int {k : IntKind} {a b : Int} (h : a = b) : Ending.returned (.int k a) = .returned (.int k b) := by rw [h]
theorem ret_bool {a b : Bool} (h : a = b) : Ending.returned (.bool a) = .returned (.bool b) := by rw [h]

/-! ### whole structs and arrays: the laws with the operation written out (they fail at once at another one) -/
section
variable {P : Program} {ops : Array Oper} {rest : List Oper} {d : Option Tmp} {x y : Operand} {t : TypeId} {p : String} {a : Act} {w : World} {Q : Exit → Act → World → Prop}

theorem W_store_row {af} (ty g : Nat) (cells : Array Value) (T : TypeId) (old : Array Value) (hx : a.eval x = .pointer (some ⟨g, 0, none⟩)) (hy : a.eval y = .agg cells)
    (hg : w.heap[g]? = some (.cells old T (0, 0))) (hi : (P.info? ty).map (·.size) = some cells.size) (hold : old.size = cells.size) (h1 : cells.all (·.oneCell') = true)
    (h : wpList P ops Q rest (a.put d undef) (w.setRow g cells)) : wpList P ops Q (⟨d, .store ty x y, t, p, af, none⟩ :: rest) a w :=
  wpList_store_row rfl ty x y rfl g cells hx hy T old hg hi hold h1 h

theorem W_load_row {af} (ty g : Nat) (T : TypeId) (cs : Array Value) (td : TypeDesc) (hx : a.eval x = .pointer (some ⟨g, 0, none⟩)) (hg : w.heap[g]? = some (.cells cs T (0, 0)))
    (hu : P.underlying ty = some td) (hd : (match td with | .struct _ | .array _ _ => true | _ => false) = true) (hi : (P.info? ty).map (·.size) = some cs.size)
    (h : wpList P ops Q rest (a.put d (.agg cs)) w) : wpList P ops Q (⟨d, .load ty x, t, p, af, none⟩ :: rest) a w :=
  wpList_load_row rfl ty x rfl g hx T cs (0, 0) td hg hu hd hi h

theorem W_load_mid {af} (ty b o : Nat) (cs : List Value) (td : TypeDesc) (hx : a.eval x = .pointer (some ⟨b, o, none⟩)) (hc : w.rangeAt b o cs)
    (hu : P.underlying ty = some td) (hd : td.isRow = true) (hi : (P.info? ty).map (·.size) = some cs.length)
    (h : wpList P ops Q rest (a.put d (.agg cs.toArray)) w) : wpList P ops Q (⟨d, .load ty x, t, p, af, none⟩ :: rest) a w :=
  wpList_load_mid rfl ty x rfl b o hx cs td hc hu hd hi h

/-- To stop the walk at a store, at a load, at an append, and to see the goal. -/
theorem W_stop_store {af} (ty : Nat) (h : Hid (wpList P ops Q (⟨d, .store ty x y, t, p, af, none⟩ :: rest) a w)) : wpList P ops Q (⟨d, .store ty x y, t, p, af, none⟩ :: rest) a w := h
theorem W_stop_load {af} (ty : Nat) (h : Hid (wpList P ops Q (⟨d, .load ty x, t, p, af, none⟩ :: rest) a w)) : wpList P ops Q (⟨d, .load ty x, t, p, af, none⟩ :: rest) a w := h
end

theorem results_row1 {P : Program} {fn : Func} {p u : Tmp} {ty : TypeId} (h : fn.results = #[.cell p ty, .tmp u]) (tmps : Array Value) (w : World) (g : Nat) (t : TypeId) (cs : Array Value) (d : TypeDesc)
    (hp : tmps.getD p undef = .pointer (some ⟨g, 0, none⟩)) (hg : w.heap[g]? = some (.cells cs t (0, 0)))
    (hu : P.underlying ty = some d) (hd : (match d with | .struct _ | .array _ _ => true | _ => false) = true) (hi : (P.info? ty).map (·.size) = some cs.size) :
    (results fn tmps).run P w = .ok (.tuple #[.agg cs, tmps.getD u undef]) w := by
  rw [results_cell_tmp h, hp]
  simp [asAddr, run_loadVar_row w g t ty cs (0, 0) d hg hu hd hi]

theorem results_row2 {P : Program} {fn : Func} {p u v : Tmp} {ty : TypeId} (h : fn.results = #[.cell p ty, .tmp u, .tmp v]) (tmps : Array Value) (w : World) (g : Nat) (t : TypeId) (cs : Array Value) (d : TypeDesc)
    (hp : tmps.getD p undef = .pointer (some ⟨g, 0, none⟩)) (hg : w.heap[g]? = some (.cells cs t (0, 0)))
    (hu : P.underlying ty = some d) (hd : (match d with | .struct _ | .array _ _ => true | _ => false) = true) (hi : (P.info? ty).map (·.size) = some cs.size) :
    (results fn tmps).run P w = .ok (.tuple #[.agg cs, tmps.getD u undef, tmps.getD v undef]) w := by
  have hp' : tmps[p]?.getD undef = .pointer (some ⟨g, 0, none⟩) := by simpa using hp
  simp [results, h, hp', asAddr, run_loadVar_row w g t ty cs (0, 0) d hg hu hd hi]

theorem rangeAt_of_sl {w : World} {es b off n c : Nat} {l : List Value} (h : Sl w es (some ⟨b, off, none⟩) n c l) : w.rangeAt b off l := fun j v hv => by
  have := h.cell _ rfl j v hv
  rwa [Addr.add_lit] at this

/-- A row of the call's own that has been set lies there; others are as they were. -/
theorem setRow_at {w : World} {g : Nat} {old cells : Array Value} {T : TypeId} (h : w.heap[g]? = some (.cells old T (0, 0))) : (w.setRow g cells).heap[g]? = some (.cells cells T (0, 0)) := setRow_heap w g old cells T _ h
theorem below_setRow {B : Nat} {a w : World} (h : Below B a w) {g : Nat} (hg : B ≤ g) (cells : Array Value) : Below B a (w.setRow g cells) :=
  h.trans ⟨rfl, rfl, rfl, by simp, fun k hk => setRow_other w g k _ (by omega)⟩
theorem grownBy_setRow (w : World) (g : Nat) (cells : Array Value) : w.grownBy (w.setRow g cells) (some g) :=
  ⟨rfl, rfl, rfl, by simp, fun k _ hk => setRow_other w g k _ (fun e => hk (by simp [e]))⟩

end Go.Proofs.Ytgpfjinkmagelaa
