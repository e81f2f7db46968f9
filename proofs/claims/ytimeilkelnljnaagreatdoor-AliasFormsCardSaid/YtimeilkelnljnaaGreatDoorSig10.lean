import Derived.Test.YtimeilkelnljnaaGreatDoorSl3
import Derived.Deep.DeepCutAuto
namespace Go.Proofs.YtimeilkelnljnaaGreatDoor
open Go.RowKit

/-- the changes that Put normalizes -/
def putL (k n : Int) (l : List Ch) (from_ to_ : Int) (v : ByteArray) : List Ch :=
  l.take (lo l from_) ++ [(from_, v)] ++ (if to_ ≤ 1099511627776 then [(to_, valAt k n l to_)] else []) ++ l.drop (lo l (to_ + 1))
def putR (k n : Int) (l : List Ch) (from_ to_ : Int) (v : ByteArray) : SigR :=
  if sv k n l = false then ((0, 0, []), 1) else if k = 3 then ((0, 0, []), 7) else if from_ < 0 ∨ to_ ≤ from_ ∨ 1099511627777 < to_ then ((0, 0, []), 2) else if vv k n v = false then ((0, 0, []), 1) else madeR k n (putL k n l from_ to_ v)

theorem box3r {w W : World} {X : Obj} {x y z : Value} {T : TypeId} (hb : Below ((w.alloc X).alloc (.cells #[x, y, z] T)).heap.size ((w.alloc X).alloc (.cells #[x, y, z] T)) W) :
    (W.cell? ⟨w.heap.size + 1, 0, none⟩ = some x ∧ W.cell? ⟨w.heap.size + 1, 1, none⟩ = some y ∧ W.cell? ⟨w.heap.size + 1, 2, none⟩ = some z) ∧ W.frozen? ⟨w.heap.size + 1, 0, none⟩ = false ∧ W.frozen? ⟨w.heap.size + 1, 1, none⟩ = false ∧ W.frozen? ⟨w.heap.size + 1, 2, none⟩ = false := by
  have h := fun i => boxN hb i
  simp only [World.size_alloc] at h
  exact ⟨⟨(h 0).1, (h 1).1, (h 2).1⟩, (h 0).2, (h 1).2, (h 2).2⟩

theorem below_set3' {w W : World} {B : Nat} (h : Below B w W) {b : Nat} (hb : B ≤ b) (p q r : Value) : Below B w (((W.setCell ⟨b, 0, none⟩ p).setCell ⟨b, 1, none⟩ q).setCell ⟨b, 2, none⟩ r) :=
  ((h.setCell hb _).setCell hb _).setCell hb _

theorem below_undrew {w W : World} (h : Below w.drew.heap.size w.drew W) : Below w.heap.size w W := ⟨h.os, h.tape, h.output, h.size, h.block⟩
theorem slr_join {w : World} {B : Nat} (a9 : Option Addr) (c9 : Nat) (r l : List Ch) (i : Nat) (h : w.ownsRow B 75 2 (.slice a9 (r.length + (l.length - i)) c9) (r.length + (l.length - i)) (chs r ++ chs (l.drop i))) :
    SlR w (.slice a9 (r.length + (l.length - i)) c9) (r ++ l.drop i).length (chs (r ++ l.drop i)) := by
  have := SlR.of_own h
  rw [List.length_append, List.length_drop, chs_append]
  exact this

theorem boxKeep {w W : World} {B b : Nat} {x y z : Value} (h : Below B w W) (hb : b < B) (p0 : w.cell? ⟨b, 0, none⟩ = some x) (p1 : w.cell? ⟨b, 1, none⟩ = some y) (p2 : w.cell? ⟨b, 2, none⟩ = some z)
    (q0 : w.frozen? ⟨b, 0, none⟩ = false) (q1 : w.frozen? ⟨b, 1, none⟩ = false) (q2 : w.frozen? ⟨b, 2, none⟩ = false) :
    W.cell? ⟨b, 0, none⟩ = some x ∧ W.cell? ⟨b, 1, none⟩ = some y ∧ W.cell? ⟨b, 2, none⟩ = some z ∧ W.frozen? ⟨b, 0, none⟩ = false ∧ W.frozen? ⟨b, 1, none⟩ = false ∧ W.frozen? ⟨b, 2, none⟩ = false :=
  ⟨(h.cell (p := ⟨b, 0, none⟩) hb).trans p0, (h.cell (p := ⟨b, 1, none⟩) hb).trans p1, (h.cell (p := ⟨b, 2, none⟩) hb).trans p2,
    (h.frozen (p := ⟨b, 0, none⟩) hb).trans q0, (h.frozen (p := ⟨b, 1, none⟩) hb).trans q1, (h.frozen (p := ⟨b, 2, none⟩) hb).trans q2⟩

end Go.Proofs.YtimeilkelnljnaaGreatDoor
