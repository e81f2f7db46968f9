import Derived.Test.YtimeilkelnljnaaGreatDoorSig11
import Derived.RegionTactic
namespace Go.Proofs.YtimeilkelnljnaaGreatDoor
open Go.RowKit

def shG (by_ : Int) (c : Ch) : Ch × Bool := ((c.1 + by_, c.2), decide (0 ≤ c.1 + by_))

/-- the boxes of Shift: the signal, the number, the result -/
structure ShSt (w W : World) (k n : Int) (a : Option Addr) (len cap : Nat) (yv : Value) : Prop where
  s : OwnRow W w.heap.size [.int .i64 k, .int .i64 n, .slice a len cap]
  y : OwnRow W (w.heap.size + 1) [yv]
  r : OwnRow W (w.heap.size + 1 + 1) [.int .i64 0, .int .i64 0, .slice none 0 0]
  b : Below w.heap.size w W
  z : w.heap.size + 1 + 1 < W.heap.size
theorem ShSt.start (w : World) (k n : Int) (a : Option Addr) (len cap : Nat) (yv : Value) (S T : TypeId) : ShSt w (((w.alloc (.cells #[.int .i64 k, .int .i64 n, .slice a len cap] S)).alloc (.cells #[yv] T)).alloc (.cells #[.int .i64 0, .int .i64 0, .slice none 0 0] S)) k n a len cap yv := by
  refine ⟨?_, ?_, ?_, (((Below.refl _ _).alloc (Nat.le_refl _) _).alloc (by simp) _).alloc (by simp; omega) _, by simp⟩
  · exact ((OwnRow.fresh w #[.int .i64 k, .int .i64 n, .slice a len cap] _).alloc (by simp) _).alloc (by simp; omega) _
  · have h := OwnRow.fresh (w.alloc (.cells #[.int .i64 k, .int .i64 n, .slice a len cap] S)) #[yv] T
    simp only [World.size_alloc] at h
    exact h.alloc (by simp) _
  · have h := OwnRow.fresh ((w.alloc (.cells #[.int .i64 k, .int .i64 n, .slice a len cap] S)).alloc (.cells #[yv] T)) #[.int .i64 0, .int .i64 0, .slice none 0 0] S
    simp only [World.size_alloc] at h
    exact h
theorem ShSt.later {w W W' : World} {k n : Int} {a : Option Addr} {len cap : Nat} {yv : Value} (h : ShSt w W k n a len cap yv) {B : Nat} (hb : Below B W W') (hB : w.heap.size + 1 + 1 < B) : ShSt w W' k n a len cap yv :=
  ⟨h.s.below hb (by omega), h.y.below hb (by omega), h.r.below hb hB, h.b.trans (hb.mono (by omega)), by have := hb.size; have := h.z; omega⟩
theorem ShSt.facts {w W : World} {k n : Int} {a : Option Addr} {len cap : Nat} {yv : Value} (h : ShSt w W k n a len cap yv) :
    (W.cell? ⟨w.heap.size, 0, none⟩ = some (.int .i64 k) ∧ W.cell? ⟨w.heap.size, 1, none⟩ = some (.int .i64 n) ∧ W.cell? ⟨w.heap.size, 2, none⟩ = some (.slice a len cap)) ∧ W.cell? ⟨w.heap.size + 1, 0, none⟩ = some yv ∧
    (W.cell? ⟨w.heap.size + 1 + 1, 0, none⟩ = some (.int .i64 0) ∧ W.cell? ⟨w.heap.size + 1 + 1, 1, none⟩ = some (.int .i64 0) ∧ W.cell? ⟨w.heap.size + 1 + 1, 2, none⟩ = some (.slice none 0 0)) ∧
    (W.frozen? ⟨w.heap.size + 1 + 1, 0, none⟩ = false ∧ W.frozen? ⟨w.heap.size + 1 + 1, 1, none⟩ = false ∧ W.frozen? ⟨w.heap.size + 1 + 1, 2, none⟩ = false) :=
  ⟨⟨h.s.cell (j := 0) rfl, h.s.cell (j := 1) rfl, h.s.cell (j := 2) rfl⟩, h.y.cell (j := 0) rfl, ⟨h.r.cell (j := 0) rfl, h.r.cell (j := 1) rfl, h.r.cell (j := 2) rfl⟩, ⟨h.r.free (j := 0) (by simp), h.r.free (j := 1) (by simp), h.r.free (j := 2) (by simp)⟩⟩
theorem ShSt.drewN {w W : World} {k n : Int} {a : Option Addr} {len cap : Nat} {yv : Value} (h : ShSt w W k n a len cap yv) (m : Nat) : ShSt w (W.drewN m) k n a len cap yv := ⟨h.s, h.y, h.r, below_drewN h.b m, h.z⟩
theorem ShSt.fin {w W : World} {k n : Int} {a : Option Addr} {len cap : Nat} {yv : Value} (h : ShSt w W k n a len cap yv) (x y z : Value) :
    (((((W.setCell ⟨w.heap.size + 1 + 1, 0, none⟩ x).setCell ⟨w.heap.size + 1 + 1, 1, none⟩ y).setCell ⟨w.heap.size + 1 + 1, 2, none⟩ z).cell? ⟨w.heap.size + 1 + 1, 0, none⟩ = some x ∧ (((W.setCell ⟨w.heap.size + 1 + 1, 0, none⟩ x).setCell ⟨w.heap.size + 1 + 1, 1, none⟩ y).setCell ⟨w.heap.size + 1 + 1, 2, none⟩ z).cell? ⟨w.heap.size + 1 + 1, 1, none⟩ = some y ∧ (((W.setCell ⟨w.heap.size + 1 + 1, 0, none⟩ x).setCell ⟨w.heap.size + 1 + 1, 1, none⟩ y).setCell ⟨w.heap.size + 1 + 1, 2, none⟩ z).cell? ⟨w.heap.size + 1 + 1, 2, none⟩ = some z)) ∧
      Below w.heap.size w (((W.setCell ⟨w.heap.size + 1 + 1, 0, none⟩ x).setCell ⟨w.heap.size + 1 + 1, 1, none⟩ y).setCell ⟨w.heap.size + 1 + 1, 2, none⟩ z) :=
  ⟨set3 (h.r.cell (j := 0) rfl) (h.r.cell (j := 1) rfl) (h.r.cell (j := 2) rfl) x y z, below_set3' h.b (by omega) _ _ _⟩

/-- what Shift returns -/
def shTail (k n : Int) (l : List Ch) (by_ : Int) : List Ch := (0, valAt k n l (-by_)) :: (l.drop (lo l (-by_ + 1))).map (fun c => (c.1 + by_, c.2))
def shBad (l : List Ch) (by_ : Int) : Bool := match l.getLast? with | none => false | some c => decide (1099511627776 < c.1 + by_)
def shiftR (k n : Int) (l : List Ch) (by_ : Int) : SigR :=
  if sv k n l = false then ((0, 0, []), 1) else if by_ < -1099511627776 ∨ 1099511627776 < by_ ∨ shBad l by_ = true then ((0, 0, []), 2) else
  if 0 ≤ by_ ∨ k = 3 then madeR k n (eachL (shG by_) l) else madeR k n (shTail k n l by_)

theorem shBad_last (l : List Ch) (h : 0 < l.length) (by_ : Int) : shBad l by_ = decide (1099511627776 < (l[l.length - 1]'(by omega)).1 + by_) := by
  unfold shBad
  rw [List.getLast?_eq_getElem?, List.getElem?_eq_getElem (by omega)]
theorem shBad_nil (l : List Ch) (h : ¬ 0 < l.length) (by_ : Int) : shBad l by_ = false := by
  have : l = [] := List.length_eq_zero_iff.1 (by omega)
  rw [this]; rfl

end Go.Proofs.YtimeilkelnljnaaGreatDoor
