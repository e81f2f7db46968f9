import Derived.WalkKit
import Derived.Deep.RegionHeld
import Derived.Lib.Hide
namespace Go.Proofs.YtfppgpamkdkckaaGreatDoor
open Go Go.RowKit
theorem tkS : (∀ (a : Act) (d : Option Tmp) (v : Value), a.put d v = (match d with | some t => { a with tmps := a.tmps.setIfInBounds t v } | none => a)) ∧
    (∀ (α : Type) (l : List α) (i : Nat) (h : i < l.toArray.size), l.toArray[i] = l[i]'h) ∧
    (∀ (α : Type) (a : α) (l : List α) (i : Nat) (h : i + 1 < (a :: l).length), (a :: l)[i + 1] = l[i]'(Nat.lt_of_succ_lt_succ h)) ∧
    (∀ (α : Type) (a : α) (l : List α) (h : 0 < (a :: l).length), (a :: l)[0] = a) ∧
    (∀ (α : Type) (l : List α) (i : Nat) (x : α), l.toArray.setIfInBounds i x = (l.set i x).toArray) ∧
    (∀ (α : Type) (x : α) (l : List α) (y : α), (x :: l).set 0 y = y :: l) ∧
    (∀ (α : Type) (x : α) (l : List α) (n : Nat) (y : α), (x :: l).set (n + 1) y = x :: l.set n y) :=
  ⟨fun a d v => by cases d <;> rfl, fun _ _ _ _ => rfl, fun _ _ _ _ _ => rfl, fun _ _ _ _ => rfl, fun _ _ _ _ => by simp, fun _ _ _ _ => rfl, fun _ _ _ _ _ => rfl⟩
section
variable {P : Program} {ops : Array Oper} {Q : Exit → Act → World → Prop} {md : Region.Mode} {S : World → Prop}
theorem tkH (i : Nat) {oi : Oper} {v : Value} {fuel : Nat} {listed : Array Bool} {a : Act} {w : World} (hS : S w)
    (h : wpAnyH P md ops Q S fuel (listed.setIfInBounds i true) (a.put oi.dst v) w)
    (hi : ops[i]? = some oi := by rfl) (hs : Region.noSelect ops = true := by kernel_rfl) (hf : Region.free md ops listed i = true := by kernel_rfl) (hr : (Region.ready md ops listed).contains i = true := by kernel_rfl)
    (hQ : ∀ c a w, Q (.panic c) (a.put oi.dst v) w → Q (.panic c) a w := by exact fun _ _ _ h => h) (hw : Region.wanted oi (yielded ops a.tmps) = true := by rfl) (hy : ∀ w, S w → (execOp a.eval oi).run P w = .ok (.value v) w := by intro w h; (try dsimp only at h); go_simp; all_goals with_reducible rfl) :
    wpAnyH P md ops Q S (fuel + 1) listed a w := wpAnyH_take hi hs hf hr hQ (Or.inl ⟨hw, hy⟩) hS h
theorem oneH (i : Nat) {fuel : Nat} {listed : Array Bool} {a : Act} {w : World} {o : Oper}
    (h : ∀ K' : Act → World → Prop, Shut (∀ a w, S w → (S w → wpAnyH P md ops Q S fuel (listed.setIfInBounds i true) a w) → K' a w) → if Region.wanted o (yielded ops a.tmps) = true then Oper.wp P o a w K' Q else K' (a.put o.dst undef) w)
    (hr : Region.ready md ops listed = [i] := by kernel_rfl) (ho : ops[i]? = some o := by rfl) : wpAnyH P md ops Q S (fuel + 1) listed a w :=
  wpAnyH_ready (rs := [i]) hr (by simp) (AllReadyH.cons ho h AllReadyH.nil)
end
theorem lhd {p : Prop} (h : p) : RowKit.Hid p := Lib.hid h
end Go.Proofs.YtfppgpamkdkckaaGreatDoor
