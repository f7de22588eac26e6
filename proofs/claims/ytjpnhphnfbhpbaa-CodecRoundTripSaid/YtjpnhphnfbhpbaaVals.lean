/- The codec law's values: their cells, their encoding, and what is read back: no program in sight. -/
import Derived.Test.YtjpnhphnfbhpbaaPlainRound
import Derived.Test.YtjpnhphnfbhpbaaKit2
set_option linter.unusedVariables false
namespace Go.Proofs.Ytjpnhphnfbhpbaa
open Go Go.Lib Go.RowKit

structure Vd where
  u : Int
  k : Int
  ax : Option Addr
  nx : Nat
  cx : Nat
  x : List UInt8
  y : List UInt8

def Vd.cells (v : Vd) : List Value := [.int .u64 v.u, .int .i64 v.k, .slice v.ax v.nx v.cx] ++ bv v.y
structure Vd.ok (w : World) (v : Vd) : Prop where
  u0 : 0 ≤ v.u
  u1 : v.u < 18446744073709551616
  k0 : -9223372036854775808 ≤ v.k
  k1 : v.k ≤ 9223372036854775807
  sl : Sl w 1 v.ax v.nx v.cx (bv v.x)
  y8 : v.y.length = 8

def Vd.enc (v : Vd) : List UInt8 := uvarint v.u.toNat ++ (uvarint (zigzag v.k) ++ ((uvarint v.x.length ++ v.x) ++ v.y))
def encs (l : List Vd) : List UInt8 := (l.map Vd.enc).flatten

theorem encs_cons (v : Vd) (l : List Vd) : encs (v :: l) = v.enc ++ encs l := by simp [encs]
theorem encs_take {l : List Vd} {i : Nat} (h : i < l.length) : encs (l.take (i + 1)) = encs (l.take i) ++ l[i].enc := by
  unfold encs
  rw [List.take_succ_eq_append_getElem h, List.map_append, List.flatten_append, List.map_cons, List.map_nil, List.flatten_cons, List.flatten_nil, List.append_nil]
theorem encs_drop {l : List Vd} {i : Nat} (h : i < l.length) : encs (l.drop i) = l[i].enc ++ encs (l.drop (i + 1)) := by
  rw [List.drop_eq_getElem_cons h, encs_cons]

theorem Vd.len {w : World} {v : Vd} (h : v.ok w) (hx : v.x.length ≤ 100) : v.enc.length ≤ 138 := by
  have a1 := uvarint_length64 (x := v.u.toNat) (by have := h.u0; have := h.u1; omega)
  have a2 := uvarint_length64 (x := zigzag v.k) (by have := zigzag_lt h.k0 h.k1; omega)
  have a3 := uvarint_length64 (x := v.x.length) (by omega)
  have := h.y8
  simp only [Vd.enc, List.length_append]
  omega

theorem Vd.cells_len {w : World} {v : Vd} (h : v.ok w) : v.cells.length = 11 := by simp [Vd.cells, bv, h.y8]

theorem flat_len : ∀ (L : List (List Value)) (es : Nat), (∀ c ∈ L, c.length = es) → L.flatten.length = L.length * es
  | [], es, _ => by simp
  | c :: L, es, h => by
    rw [List.flatten_cons, List.length_append, h c (by simp), flat_len L es (fun c' hc => h c' (by simp [hc])), List.length_cons, Nat.succ_mul]
    omega

theorem flat_at : ∀ (L : List (List Value)) (es i j : Nat) (hi : i < L.length), (∀ c ∈ L, c.length = es) → j < es → L.flatten[i * es + j]? = L[i][j]?
  | [], es, i, j, hi, _, _ => by simp at hi
  | c :: L, es, 0, j, hi, h, hj => by
    have := h c (by simp)
    simp only [Nat.zero_mul, Nat.zero_add, List.flatten_cons, List.getElem_cons_zero]
    rw [List.getElem?_append_left (by omega)]
  | c :: L, es, i + 1, j, hi, h, hj => by
    have hc := h c (by simp)
    have := flat_at L es i j (by simpa using hi) (fun c' hc' => h c' (by simp [hc'])) hj
    rw [List.flatten_cons, Nat.succ_mul, List.getElem?_append_right (by omega), show i * es + es + j - c.length = i * es + j by omega, this]
    rfl

/-- Where the value number i of a slice lies. -/
theorem vals_at {w : World} {a : Option Addr} {n c : Nat} {vs : List Vd} (h : Sl w 11 a n c ((vs.map Vd.cells).flatten)) (hok : ∀ v ∈ vs, v.ok w) {i : Nat} (hi : i < vs.length) :
    ∃ b off, a = some ⟨b, off, none⟩ ∧ ∀ i (hi : i < vs.length), w.rangeAt b (off + i * 11) (vs[i].cells) := by
  have hall : ∀ c ∈ vs.map Vd.cells, c.length = 11 := fun c hc => by
    obtain ⟨v, hv, rfl⟩ := List.mem_map.1 hc
    exact Vd.cells_len (hok v hv)
  have hfl := flat_len (vs.map Vd.cells) 11 hall
  rw [List.length_map] at hfl
  obtain ⟨b, off, ha, hcell⟩ := h.at (k := 0) (by omega)
  refine ⟨b, off, ha, fun i hi j u hu => ?_⟩
  have hl := Vd.cells_len (hok vs[i] (List.getElem_mem _))
  have hj : j < 11 := by have := (List.getElem?_eq_some_iff.1 hu).1; omega
  have hf := flat_at (vs.map Vd.cells) 11 i j (by simpa using hi) hall hj
  rw [List.getElem_map, hu] at hf
  obtain ⟨hlt, he⟩ := List.getElem?_eq_some_iff.1 hf
  have := hcell (i * 11 + j) hlt
  rw [he] at this
  rw [Nat.add_assoc]
  exact this

theorem vd_y {w : World} {v : Vd} (h : v.ok w) : ∃ x0 x1 x2 x3 x4 x5 x6 x7, v.y = [x0, x1, x2, x3, x4, x5, x6, x7] := list8 h.y8

/-- What the four reads of a value's encoding give. -/
theorem read_u (v : Vd) (r : List UInt8) {w : World} (h : v.ok w) : rdU (some (v.enc ++ r)) = some (v.u.toNat, uvarint (zigzag v.k) ++ ((uvarint v.x.length ++ v.x) ++ v.y) ++ r) := by
  rw [Vd.enc, List.append_assoc]
  exact rdU_round _ (by have := h.u0; have := h.u1; omega)
theorem read_k (v : Vd) (r : List UInt8) {w : World} (h : v.ok w) : rdU (some (uvarint (zigzag v.k) ++ ((uvarint v.x.length ++ v.x) ++ v.y) ++ r)) = some (zigzag v.k, (uvarint v.x.length ++ v.x) ++ v.y ++ r) := by
  rw [List.append_assoc]
  exact rdU_round _ (by have := zigzag_lt h.k0 h.k1; omega)
theorem read_x (v : Vd) (r : List UInt8) (h : v.x.length ≤ 100) : bR (some ((uvarint v.x.length ++ v.x) ++ v.y ++ r)) = some (v.x, v.y ++ r) := by
  rw [List.append_assoc, List.append_assoc]
  exact bR_round _ (by omega)
theorem read_y (v : Vd) (r : List UInt8) {w : World} (h : v.ok w) : kR (some (v.y ++ r)) = some (v.y, r) := kR_round _ h.y8

end Go.Proofs.Ytjpnhphnfbhpbaa
