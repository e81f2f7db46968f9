import Derived.Test.YtimeilkelnljnaaGreatDoorSig15
namespace Go.Proofs.YtimeilkelnljnaaGreatDoor
open Go.RowKit

/-- the boxes of Splice: two signals, the result -/
structure SpSt (w W : World) (k n : Int) (a : Option Addr) (la ca : Nat) (k2 n2 : Int) (b : Option Addr) (lb cb : Nat) : Prop where
  s : OwnRow W w.heap.size [.int .i64 k, .int .i64 n, .slice a la ca]
  y : OwnRow W (w.heap.size + 1) [.int .i64 k2, .int .i64 n2, .slice b lb cb]
  r : OwnRow W (w.heap.size + 1 + 1) [.int .i64 0, .int .i64 0, .slice none 0 0]
  b : Below w.heap.size w W
  z : w.heap.size + 1 + 1 < W.heap.size
section
variable {w W W' : World} {k n : Int} {a : Option Addr} {la ca : Nat} {k2 n2 : Int} {b : Option Addr} {lb cb : Nat}
theorem SpSt.start (w : World) (k n : Int) (a : Option Addr) (la ca : Nat) (k2 n2 : Int) (b : Option Addr) (lb cb : Nat) (S : TypeId) : SpSt w (((w.alloc (.cells #[.int .i64 k, .int .i64 n, .slice a la ca] S)).alloc (.cells #[.int .i64 k2, .int .i64 n2, .slice b lb cb] S)).alloc (.cells #[.int .i64 0, .int .i64 0, .slice none 0 0] S)) k n a la ca k2 n2 b lb cb := by
  refine ⟨?_, ?_, ?_, (((Below.refl _ _).alloc (Nat.le_refl _) _).alloc (by simp) _).alloc (by simp; omega) _, by simp⟩
  · exact ((OwnRow.fresh w #[.int .i64 k, .int .i64 n, .slice a la ca] _).alloc (by simp) _).alloc (by simp; omega) _
  · have h := OwnRow.fresh (w.alloc (.cells #[.int .i64 k, .int .i64 n, .slice a la ca] S)) #[.int .i64 k2, .int .i64 n2, .slice b lb cb] S
    simp only [World.size_alloc] at h
    exact h.alloc (by simp) _
  · have h := OwnRow.fresh ((w.alloc (.cells #[.int .i64 k, .int .i64 n, .slice a la ca] S)).alloc (.cells #[.int .i64 k2, .int .i64 n2, .slice b lb cb] S)) #[.int .i64 0, .int .i64 0, .slice none 0 0] S
    simp only [World.size_alloc] at h
    exact h
theorem SpSt.later (h : SpSt w W k n a la ca k2 n2 b lb cb) {B : Nat} (hb : Below B W W') (hB : w.heap.size + 1 + 1 < B) : SpSt w W' k n a la ca k2 n2 b lb cb :=
  ⟨h.s.below hb (by omega), h.y.below hb (by omega), h.r.below hb hB, h.b.trans (hb.mono (by omega)), by have := hb.size; have := h.z; omega⟩
theorem SpSt.facts (h : SpSt w W k n a la ca k2 n2 b lb cb) :
    (W.cell? ⟨w.heap.size, 0, none⟩ = some (.int .i64 k) ∧ W.cell? ⟨w.heap.size, 1, none⟩ = some (.int .i64 n) ∧ W.cell? ⟨w.heap.size, 2, none⟩ = some (.slice a la ca)) ∧
    (W.cell? ⟨w.heap.size + 1, 0, none⟩ = some (.int .i64 k2) ∧ W.cell? ⟨w.heap.size + 1, 1, none⟩ = some (.int .i64 n2) ∧ W.cell? ⟨w.heap.size + 1, 2, none⟩ = some (.slice b lb cb)) ∧
    (W.cell? ⟨w.heap.size + 1 + 1, 0, none⟩ = some (.int .i64 0) ∧ W.cell? ⟨w.heap.size + 1 + 1, 1, none⟩ = some (.int .i64 0) ∧ W.cell? ⟨w.heap.size + 1 + 1, 2, none⟩ = some (.slice none 0 0)) ∧
    (W.frozen? ⟨w.heap.size + 1 + 1, 0, none⟩ = false ∧ W.frozen? ⟨w.heap.size + 1 + 1, 1, none⟩ = false ∧ W.frozen? ⟨w.heap.size + 1 + 1, 2, none⟩ = false) :=
  ⟨⟨h.s.cell (j := 0) rfl, h.s.cell (j := 1) rfl, h.s.cell (j := 2) rfl⟩, ⟨h.y.cell (j := 0) rfl, h.y.cell (j := 1) rfl, h.y.cell (j := 2) rfl⟩, ⟨h.r.cell (j := 0) rfl, h.r.cell (j := 1) rfl, h.r.cell (j := 2) rfl⟩, ⟨h.r.free (j := 0) (by simp), h.r.free (j := 1) (by simp), h.r.free (j := 2) (by simp)⟩⟩
theorem SpSt.fin (h : SpSt w W k n a la ca k2 n2 b lb cb) (x y z : Value) :
    (((((W.setCell ⟨w.heap.size + 1 + 1, 0, none⟩ x).setCell ⟨w.heap.size + 1 + 1, 1, none⟩ y).setCell ⟨w.heap.size + 1 + 1, 2, none⟩ z).cell? ⟨w.heap.size + 1 + 1, 0, none⟩ = some x ∧ (((W.setCell ⟨w.heap.size + 1 + 1, 0, none⟩ x).setCell ⟨w.heap.size + 1 + 1, 1, none⟩ y).setCell ⟨w.heap.size + 1 + 1, 2, none⟩ z).cell? ⟨w.heap.size + 1 + 1, 1, none⟩ = some y ∧ (((W.setCell ⟨w.heap.size + 1 + 1, 0, none⟩ x).setCell ⟨w.heap.size + 1 + 1, 1, none⟩ y).setCell ⟨w.heap.size + 1 + 1, 2, none⟩ z).cell? ⟨w.heap.size + 1 + 1, 2, none⟩ = some z)) ∧
      Below w.heap.size w (((W.setCell ⟨w.heap.size + 1 + 1, 0, none⟩ x).setCell ⟨w.heap.size + 1 + 1, 1, none⟩ y).setCell ⟨w.heap.size + 1 + 1, 2, none⟩ z) :=
  ⟨set3 (h.r.cell (j := 0) rfl) (h.r.cell (j := 1) rfl) (h.r.cell (j := 2) rfl) x y z, below_set3' h.b (by omega) _ _ _⟩
end
theorem slr_take {W : World} {a : Option Addr} {cap : Nat} {l : List Ch} (h : SlR W (.slice a l.length cap) l.length (chs l)) (i : Nat) (hi : i ≤ l.length) : SlR W (.slice a i cap) (l.take i).length (chs (l.take i)) := by
  rw [show (l.take i).length = i by rw [List.length_take]; omega]
  obtain ⟨a', c', hv, h3, h4⟩ := h.shape
  injection hv with _ _ e3
  subst e3
  rw [show chs l = chs (l.take i) ++ chs (l.drop i) by rw [← chs_append, List.take_append_drop]] at h
  exact h.cut hi (by omega) (Nat.le_refl _)

/-- is a change put at the seam -/
def spC (k : Int) (m : List Ch) (t : Int) : Bool := decide (k ≠ 3) && (decide (t ≤ 1099511627776) && (match m[lo m t]? with | none => true | some c => decide (t < c.1)))
def spL (k n : Int) (l m : List Ch) (t : Int) : List Ch := l.take (lo l t) ++ (if spC k m t = true then [(t, valAt k n m t)] else []) ++ m.drop (lo m t)
def spliceR (k n : Int) (l : List Ch) (k2 n2 : Int) (m : List Ch) (t : Int) : SigR :=
  if sv k n l = false ∨ sv k2 n2 m = false then ((0, 0, []), 1) else if k ≠ k2 ∨ n ≠ n2 then ((0, 0, []), 7) else if t < 0 ∨ 1099511627777 < t then ((0, 0, []), 2) else madeR k n (spL k n l m t)

end Go.Proofs.YtimeilkelnljnaaGreatDoor
