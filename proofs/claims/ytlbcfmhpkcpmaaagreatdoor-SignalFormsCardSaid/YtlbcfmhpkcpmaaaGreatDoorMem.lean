import Derived.WalkKit
import Derived.WalkSpells
import Derived.WalkLawsBesides
import Derived.Lib.Hide
/- Memory words of my own: rows that the call owns, slices that read as lists. Nothing here names the program. -/
namespace Go.Proofs.YtlbcfmhpkcpmaaaGreatDoor
open Go.RowKit

theorem ext_trans {a b c : World} (h : Below a.heap.size a b) (k : Below b.heap.size b c) : Below a.heap.size a c := h.trans (k.mono h.size)

theorem bcell {W w1 : World} (hb : Below W.heap.size W w1) : (∀ b o, b < W.heap.size → w1.cell? ⟨b, o, none⟩ = W.cell? ⟨b, o, none⟩) ∧ (∀ b o, b < W.heap.size → w1.frozen? ⟨b, o, none⟩ = W.frozen? ⟨b, o, none⟩) :=
  ⟨fun b o h => hb.cell (p := ⟨b, o, none⟩) h, fun b o h => hb.frozen (p := ⟨b, o, none⟩) h⟩

theorem cell_lt {w : World} {b o : Nat} {v : Value} (h : w.cell? ⟨b, o, none⟩ = some v) : b < w.heap.size := World.block_lt_of_cell? (h := h)

theorem ret_int' {k : IntKind} {a b : Int} (h : a = b) : Ending.returned (.int k a) = .returned (.int k b) := by rw [h]
theorem ret_bool {a b : Bool} (h : a = b) : Ending.returned (.bool a) = .returned (.bool b) := by rw [h]
theorem ret_str {a b : ByteArray} (h : a = b) : Ending.returned (.string a) = .returned (.string b) := by rw [h]

theorem addr_add (b o j : Nat) : (⟨b, o, none⟩ : Addr).add j = ⟨b, o + j, none⟩ := by unfold Addr.add; split <;> simp_all

theorem ret_str_int {a b : ByteArray} {i j : Int} (h : (a, i) = (b, j)) : Ending.returned (.tuple #[.string a, .int .i64 i]) = .returned (.tuple #[.string b, .int .i64 j]) := by
  injection h with h1 h2; rw [h1, h2]

/-- block b holds these cells from its head on, and they may be written -/
def OwnRow (w : World) (b : Nat) (xs : List Value) : Prop :=
  ∀ j v, xs[j]? = some v → w.cell? ⟨b, j, none⟩ = some v ∧ w.frozen? ⟨b, j, none⟩ = false

theorem OwnRow.cell {w : World} {b : Nat} {xs : List Value} (h : OwnRow w b xs) {j : Nat} {v : Value} (hj : xs[j]? = some v) : w.cell? ⟨b, j, none⟩ = some v := (h j v hj).1
theorem OwnRow.free {w : World} {b : Nat} {xs : List Value} (h : OwnRow w b xs) {j : Nat} (hj : j < xs.length) : w.frozen? ⟨b, j, none⟩ = false := (h j _ (List.getElem?_eq_getElem hj)).2
theorem OwnRow.below {w w' : World} {B b : Nat} {xs : List Value} (h : OwnRow w b xs) (hb : Below B w w') (hB : b < B) : OwnRow w' b xs :=
  fun j v hj => ⟨(hb.cell (p := ⟨b, j, none⟩) hB).trans (h j v hj).1, (hb.frozen (p := ⟨b, j, none⟩) hB).trans (h j v hj).2⟩
theorem OwnRow.drew {w : World} {b : Nat} {xs : List Value} (h : OwnRow w b xs) : OwnRow w.drew b xs := h
theorem OwnRow.set {w : World} {b : Nat} {xs : List Value} (h : OwnRow w b xs) {j : Nat} (hj : j < xs.length) (u : Value) : OwnRow (w.setCell ⟨b, j, none⟩ u) b (xs.set j u) := by
  intro i v hi
  have hc := h.cell (List.getElem?_eq_getElem hj)
  by_cases e : i = j
  · subst e
    rw [List.getElem?_set_self hj] at hi
    obtain rfl := Option.some.inj hi
    exact ⟨World.cell?_setCell_same _ _ _ hc, by rw [World.frozen?_setCell]; exact h.free hj⟩
  · rw [List.getElem?_set_ne (fun h => e h.symm)] at hi
    refine ⟨?_, by rw [World.frozen?_setCell]; exact (h i v hi).2⟩
    rw [World.cell?_setCell_other (h := by intro h; apply e; injection h with _ h2 _; exact h2.symm)]
    exact (h i v hi).1

/-- v is a slice of n elements whose cells, one behind the other, are xs -/
def SlR (w : World) (v : Value) (n : Nat) (xs : List Value) : Prop :=
  ∃ a cap, v = .slice a n cap ∧ n ≤ cap ∧ cap ≤ maxLen ∧ (a = none → cap = 0) ∧ (0 < n → ∃ b o, a = some ⟨b, o, none⟩ ∧ ∀ j u, xs[j]? = some u → w.cell? ⟨b, o + j, none⟩ = some u)

theorem SlR.below {w w' : World} {v : Value} {n : Nat} {xs : List Value} (h : SlR w v n xs) (hb : Below w.heap.size w w') : SlR w' v n xs := by
  obtain ⟨a, cap, hv, h1, h2, h3, h4⟩ := h
  refine ⟨a, cap, hv, h1, h2, h3, fun hn => ?_⟩
  obtain ⟨b, o, ha, hc⟩ := h4 hn
  refine ⟨b, o, ha, fun j u hj => ?_⟩
  have := hc j u hj
  exact (hb.cell (p := ⟨b, o + j, none⟩) (cell_lt this)).trans this
theorem SlR.nil (w : World) : SlR w (.slice none 0 0) 0 [] := ⟨none, 0, rfl, Nat.le_refl _, by simp [maxLen], fun _ => rfl, fun h => absurd h (by simp)⟩

theorem SlR.of_own {w : World} {base e size : Nat} {v : Value} {n : Nat} {xs : List Value} (h : w.ownsRow base e size v n xs) : SlR w v n xs := by
  rcases h.2 with ⟨rfl, rfl⟩ | ⟨g, cap, cur, rfl, hb, hg, hn, hm, hs, hx⟩
  · exact ⟨none, 0, rfl, Nat.le_refl _, by simp [maxLen], fun _ => rfl, fun h => absurd h (by simp)⟩
  · refine ⟨some ⟨g, 0, none⟩, cap, rfl, hn, hm, fun h => by simp at h, fun _ => ⟨g, 0, rfl, fun j u hj => ?_⟩⟩
    have := h.cells (g := g) rfl j u hj
    rwa [addr_add] at this

/-- a slice that is not empty has an address -/
theorem SlR.at {w : World} {v : Value} {n : Nat} {xs : List Value} (h : SlR w v n xs) (hn : 0 < n) :
    ∃ b o cap, v = .slice (some ⟨b, o, none⟩) n cap ∧ n ≤ cap ∧ cap ≤ maxLen ∧ ∀ j u, xs[j]? = some u → w.cell? ⟨b, o + j, none⟩ = some u := by
  obtain ⟨a, cap, hv, h1, h2, h3, h4⟩ := h
  obtain ⟨b, o, rfl, hc⟩ := h4 hn
  exact ⟨b, o, cap, hv, h1, h2, hc⟩
theorem SlR.zero {w : World} {v : Value} {xs : List Value} (h : SlR w v 0 xs) : ∃ a cap, v = .slice a 0 cap ∧ cap ≤ maxLen ∧ (a = none → cap = 0) := by
  obtain ⟨a, cap, hv, h1, h2, h3, h4⟩ := h
  exact ⟨a, cap, hv, h2, h3⟩

theorem SlR.shape {w : World} {v : Value} {n : Nat} {xs : List Value} (h : SlR w v n xs) : ∃ a cap, v = .slice a n cap ∧ n ≤ cap ∧ cap ≤ maxLen := by
  obtain ⟨a, cap, hv, h1, h2, h3, h4⟩ := h
  exact ⟨a, cap, hv, h1, h2⟩
/-- the same slice, cut at its front part -/
theorem SlR.cut {w : World} {a : Option Addr} {n k cap cap' : Nat} {xs ys : List Value} (h : SlR w (.slice a n cap) n (xs ++ ys)) (hk : k ≤ n) (hc : k ≤ cap') (hc' : cap' ≤ cap) : SlR w (.slice a k cap') k xs := by
  obtain ⟨a', cap1, hv, h1, h2, h3, h4⟩ := h
  injection hv with e1 e2 e3
  subst e1 e3
  refine ⟨_, cap', rfl, hc, by omega, fun h => by have := h3 h; omega, fun hn => ?_⟩
  obtain ⟨b, o, ha, hcc⟩ := h4 (by omega)
  exact ⟨b, o, ha, fun j u hj => hcc j u (by rw [List.getElem?_append_left]; exact hj; exact (List.getElem?_eq_some_iff.1 hj).1)⟩

/-- the three cells of a box, later -/
theorem box3 {w W : World} {x y z : Value} {T : TypeId} (hb : Below (w.alloc (.cells #[x, y, z] T)).heap.size (w.alloc (.cells #[x, y, z] T)) W) :
    W.cell? ⟨w.heap.size, 0, none⟩ = some x ∧ W.cell? ⟨w.heap.size, 1, none⟩ = some y ∧ W.cell? ⟨w.heap.size, 2, none⟩ = some z := by
  have h : ∀ i, W.cell? ⟨w.heap.size, i, none⟩ = (#[x, y, z] : Array Value)[i]? := fun i => by
    rw [hb.cell (p := ⟨w.heap.size, i, none⟩) (by simp), World.cell?_alloc_mark]
  exact ⟨h 0, h 1, h 2⟩

theorem ba_eq (a : ByteArray) (l : List UInt8) (h : a.data.toList = l) : a = ⟨l.toArray⟩ := by
  obtain ⟨d⟩ := a
  subst h
  rfl

theorem OwnRow.fresh (w : World) (C : Array Value) (T : TypeId) : OwnRow (w.alloc (.cells C T)) w.heap.size C.toList := by
  intro j v hj
  refine ⟨?_, ?_⟩
  · rw [World.cell?_alloc_mark]; simpa using hj
  · rw [World.frozen?_alloc_mark]; simp
theorem OwnRow.alloc {w : World} {b : Nat} {xs : List Value} (h : OwnRow w b xs) (hb : b < w.heap.size) (o : Obj) : OwnRow (w.alloc o) b xs :=
  h.below ((Below.refl _ w).alloc (Nat.le_refl _) o) hb
theorem cell_alloc {w : World} {b o : Nat} {v : Value} (h : w.cell? ⟨b, o, none⟩ = some v) (x : Obj) : (w.alloc x).cell? ⟨b, o, none⟩ = some v :=
  (((Below.refl _ w).alloc (Nat.le_refl _) x).cell (p := ⟨b, o, none⟩) (cell_lt h)).trans h

theorem box3f {w W : World} {x y z : Value} {T : TypeId} (hb : Below (w.alloc (.cells #[x, y, z] T)).heap.size (w.alloc (.cells #[x, y, z] T)) W) :
    W.frozen? ⟨w.heap.size, 0, none⟩ = false ∧ W.frozen? ⟨w.heap.size, 1, none⟩ = false ∧ W.frozen? ⟨w.heap.size, 2, none⟩ = false := by
  have h : ∀ i, W.frozen? ⟨w.heap.size, i, none⟩ = false := fun i => by
    rw [hb.frozen (p := ⟨w.heap.size, i, none⟩) (by simp), World.frozen?_alloc_mark]; simp
  exact ⟨h 0, h 1, h 2⟩
theorem ext_alloc {w w1 : World} {o : Obj} (hb : Below (w.alloc o).heap.size (w.alloc o) w1) : Below w.heap.size w w1 :=
  ((Below.refl _ _).alloc (Nat.le_refl _) o).trans (hb.mono (by simp))

theorem set3 {w : World} {b : Nat} {x y z : Value} (h0 : w.cell? ⟨b, 0, none⟩ = some x) (h1 : w.cell? ⟨b, 1, none⟩ = some y) (h2 : w.cell? ⟨b, 2, none⟩ = some z) (p q r : Value) :
    (((w.setCell ⟨b, 0, none⟩ p).setCell ⟨b, 1, none⟩ q).setCell ⟨b, 2, none⟩ r).cell? ⟨b, 0, none⟩ = some p ∧ (((w.setCell ⟨b, 0, none⟩ p).setCell ⟨b, 1, none⟩ q).setCell ⟨b, 2, none⟩ r).cell? ⟨b, 1, none⟩ = some q ∧ (((w.setCell ⟨b, 0, none⟩ p).setCell ⟨b, 1, none⟩ q).setCell ⟨b, 2, none⟩ r).cell? ⟨b, 2, none⟩ = some r := by
  have o : ∀ (W : World) (i j : Nat) (v u : Value), i ≠ j → W.cell? ⟨b, i, none⟩ = some v → (W.setCell ⟨b, j, none⟩ u).cell? ⟨b, i, none⟩ = some v := fun W i j v u hij h => by
    rw [World.cell?_setCell_other (h := by intro e; apply hij; injection e with _ e2 _; exact e2.symm)]; exact h
  have s : ∀ (W : World) (i : Nat) (v u : Value), W.cell? ⟨b, i, none⟩ = some v → (W.setCell ⟨b, i, none⟩ u).cell? ⟨b, i, none⟩ = some u := fun W i v u h => World.cell?_setCell_same _ _ _ h
  exact ⟨o _ _ _ _ _ (by omega) (o _ _ _ _ _ (by omega) (s _ _ _ _ h0)), o _ _ _ _ _ (by omega) (s _ _ _ _ (o _ _ _ _ _ (by omega) h1)), s _ _ _ _ (o _ _ _ _ _ (by omega) (o _ _ _ _ _ (by omega) h2))⟩

theorem boxN {w W : World} {C : Array Value} {T : TypeId} (hb : Below (w.alloc (.cells C T)).heap.size (w.alloc (.cells C T)) W) (i : Nat) :
    W.cell? ⟨w.heap.size, i, none⟩ = C[i]? ∧ W.frozen? ⟨w.heap.size, i, none⟩ = false := by
  refine ⟨?_, ?_⟩
  · rw [hb.cell (p := ⟨w.heap.size, i, none⟩) (by simp), World.cell?_alloc_mark]
  · rw [hb.frozen (p := ⟨w.heap.size, i, none⟩) (by simp), World.frozen?_alloc_mark]; simp

theorem ba_ne {s v : ByteArray} (h : s ≠ v) : (s.toList == v.toList) = false := by
  rw [beq_eq_false_iff_ne, ByteArray.toList_eq, ByteArray.toList_eq]
  intro e
  apply h
  obtain ⟨⟨a⟩⟩ := s
  obtain ⟨⟨b⟩⟩ := v
  simp at e
  rw [e]

end Go.Proofs.YtlbcfmhpkcpmaaaGreatDoor
