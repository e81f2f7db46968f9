import Derived.Test.YtimeilkelnljnaaGreatDoorSl1
namespace Go.Proofs.YtimeilkelnljnaaGreatDoor
open Go.RowKit

/-- what Window returns -/
def winR (k n : Int) (l : List Ch) (from_ to_ : Int) : List Ch := if sv k n l = false then [] else if to_ < from_ then [] else (l.take (lo l (min to_ 1099511627776 + 1))).drop (lo l from_)
def WinPost (r : List Ch) (w : World) (e : Ending) (w' : World) : Prop := ∃ v', e = .returned v' ∧ SlR w' v' r.length (chs r) ∧ Below w.heap.size w w'
theorem WinPost.nil {w W : World} (h : Below w.heap.size w W) : WinPost [] w (.returned (.slice none 0 0)) W := ⟨_, rfl, SlR.nil _, h⟩

/-- a part of a slice of changes -/
theorem SlR.part {w : World} {b o cap : Nat} {l : List Ch} (h : SlR w (.slice (some ⟨b, o, none⟩) l.length cap) l.length (chs l)) (i j : Nat) (hij : i < j) (hj : j ≤ l.length) :
    SlR w (.slice (some ⟨b, o + i * 2, none⟩) (j - i) (cap - i)) ((l.take j).drop i).length (chs ((l.take j).drop i)) := by
  obtain ⟨b', o', cap', hv, h1, h2, hc⟩ := h.at (by omega)
  injection hv with e1 _ e3
  injection e1 with e1
  injection e1 with e1 e2 _
  subst e1 e2 e3
  have hl : ((l.take j).drop i).length = j - i := by simp; omega
  rw [hl]
  refine ⟨_, _, rfl, by omega, by omega, fun h => by simp at h, fun _ => ⟨b, o + i * 2, rfl, fun x u hx => ?_⟩⟩
  have hs : chs l = chs (l.take i) ++ (chs ((l.take j).drop i) ++ chs (l.drop j)) := by
    rw [← chs_append, ← chs_append]
    congr 1
    have h3 : l.take i = (l.take j).take i := by rw [List.take_take, Nat.min_eq_left (by omega)]
    rw [h3, ← List.append_assoc, List.take_append_drop, List.take_append_drop]
  have hx' := (List.getElem?_eq_some_iff.1 hx).1
  have h4 : (chs (l.take i)).length = i * 2 := by rw [chs_len]; simp; omega
  have := hc (i * 2 + x) u (by
    rw [hs, List.getElem?_append_right (by omega), h4, Nat.add_sub_cancel_left, List.getElem?_append_left hx']
    exact hx)
  rwa [← Nat.add_assoc] at this

end Go.Proofs.YtimeilkelnljnaaGreatDoor
