import Derived.Test.YtimeilkelnljnaaGreatDoorSig1
import Derived.Deep.RegionHeld3
namespace Go.Proofs.YtimeilkelnljnaaGreatDoor
open Go.RowKit

/-- the changes are sorted strictly by their times -/
def Sorted (l : List Ch) : Prop := ∀ i j (hi : i < l.length) (hj : j < l.length), i < j → l[i].1 < l[j].1
/-- how many changes are before a time -/
def lo (l : List Ch) (t : Int) : Nat := (l.takeWhile (fun c => decide (c.1 < t))).length
theorem lo_le (l : List Ch) (t : Int) : lo l t ≤ l.length := List.Sublist.length_le (List.takeWhile_sublist _)
theorem lo_lt (l : List Ch) (t : Int) (hs : Sorted l) (h : Nat) (hh : h < l.length) : l[h].1 < t ↔ h < lo l t := by
  constructor
  · intro h1
    rcases Nat.lt_or_ge h (lo l t) with h2 | h2
    · exact h2
    · exfalso
      have hlt : lo l t < l.length := by omega
      have := takeWhile_end (fun c : Ch => decide (c.1 < t)) l l[lo l t] (List.getElem?_eq_getElem hlt)
      simp at this
      rcases Nat.lt_or_ge (lo l t) h with h3 | h3
      · have := hs _ _ hlt hh h3; omega
      · obtain rfl : h = lo l t := by omega
        omega
  · intro h1
    obtain ⟨x, hx, hp⟩ := takeWhile_at (fun c : Ch => decide (c.1 < t)) l h h1
    rw [List.getElem?_eq_getElem hh] at hx
    rw [Option.some.inj hx]
    simpa using hp

end Go.Proofs.YtimeilkelnljnaaGreatDoor

namespace Go.Proofs.YtimeilkelnljnaaGreatDoor
open Go.RowKit

def valAt (k n : Int) (l : List Ch) (t : Int) : ByteArray := if k = 3 then vi k n else match lo l (t + 1) with | 0 => vi k n | j + 1 => (l.getD j (0, ⟨#[]⟩)).2

/-- the change with an index, if there is one -/
def chR (l : List Ch) (k : Int) : Ch × Int := if k < 0 then ((0, ⟨#[]⟩), 6) else match l[k.toNat]? with | none => ((0, ⟨#[]⟩), 6) | some c => (c, 0)
def ChPost (r : Ch × Int) (w : World) (e : Ending) (w' : World) : Prop := e = .returned (.tuple #[.agg #[.int .i64 r.1.1, .string r.1.2], .int .i64 r.2]) ∧ Below w.heap.size w w'

end Go.Proofs.YtimeilkelnljnaaGreatDoor

namespace Go.Proofs.YtimeilkelnljnaaGreatDoor
open Go.RowKit

theorem svGo_sorted (k n : Int) : ∀ (l : List Ch) (a : Int) (v : ByteArray), svGo k n a v l = true → (∀ j (hj : j < l.length), a < l[j].1 ∧ l[j].1 ≤ 1099511627776 ∧ vv k n l[j].2 = true) ∧ Sorted l
  | [], a, v, _ => ⟨fun j hj => by simp at hj, fun i j hi => by simp at hi⟩
  | c :: l, a, v, h => by
    unfold svGo at h
    split at h
    · cases h
    · rename_i h1
      split at h
      · cases h
      · rename_i h2
        split at h
        · cases h
        · obtain ⟨h3, h4⟩ := svGo_sorted k n l c.1 c.2 h
          refine ⟨fun j hj => ?_, fun i j hi hj hij => ?_⟩
          · cases j with
            | zero => exact ⟨by simp; omega, by simp; omega, by simpa using h2⟩
            | succ j =>
              have := h3 j (by simpa using hj)
              simp only [List.getElem_cons_succ]
              exact ⟨by omega, this.2⟩
          · cases j with
            | zero => omega
            | succ j =>
              cases i with
              | zero => simpa using (h3 j (by simpa using hj)).1
              | succ i => simpa using h4 i j (by simpa using hi) (by simpa using hj) (by omega)
theorem sv_sorted {k n : Int} {l : List Ch} (h : sv k n l = true) : Sorted l ∧ l.length ≤ 4096 ∧ vt k n = true ∧ ∀ j (hj : j < l.length), 0 ≤ l[j].1 ∧ l[j].1 ≤ 1099511627776 ∧ vv k n l[j].2 = true := by
  unfold sv at h
  rw [Bool.and_eq_true, Bool.and_eq_true, decide_eq_true_iff] at h
  obtain ⟨⟨h1, h2⟩, h3⟩ := h
  obtain ⟨h4, h5⟩ := svGo_sorted k n l _ _ h3
  exact ⟨h5, h2, h1, fun j hj => by have := h4 j hj; exact ⟨by omega, this.2⟩⟩

theorem box2r {w W : World} {X : Obj} {x y : Value} {T : TypeId} (hb : Below ((w.alloc X).alloc (.cells #[x, y] T)).heap.size ((w.alloc X).alloc (.cells #[x, y] T)) W) :
    W.cell? ⟨w.heap.size + 1, 0, none⟩ = some x ∧ W.cell? ⟨w.heap.size + 1, 1, none⟩ = some y ∧ W.frozen? ⟨w.heap.size + 1, 0, none⟩ = false ∧ W.frozen? ⟨w.heap.size + 1, 1, none⟩ = false := by
  have h := fun i => boxN hb i
  simp only [World.size_alloc] at h
  exact ⟨(h 0).1, (h 1).1, (h 0).2, (h 1).2⟩
/-- what Next returns -/
def nextR (k n : Int) (l : List Ch) (t : Int) : Ch × Int := if sv k n l = false then ((0, ⟨#[]⟩), 1) else if t < -1 ∨ 1099511627776 < t then ((0, ⟨#[]⟩), 2) else chR l (lo l (t + 1))

end Go.Proofs.YtimeilkelnljnaaGreatDoor

namespace Go.Proofs.YtimeilkelnljnaaGreatDoor
open Go.RowKit

/-- what Previous returns -/
def prevR (k n : Int) (l : List Ch) (t : Int) : Ch × Int := if sv k n l = false then ((0, ⟨#[]⟩), 1) else if t < 0 ∨ 1099511627777 < t then ((0, ⟨#[]⟩), 2) else chR l ((lo l t : Int) - 1)

/-- what At returns -/
def atR (k n : Int) (l : List Ch) (t : Int) : ByteArray × Int := if sv k n l = false then (⟨#[]⟩, 1) else if t < 0 ∨ 1099511627776 < t then (⟨#[]⟩, 2) else (valAt k n l t, 0)
end Go.Proofs.YtimeilkelnljnaaGreatDoor
