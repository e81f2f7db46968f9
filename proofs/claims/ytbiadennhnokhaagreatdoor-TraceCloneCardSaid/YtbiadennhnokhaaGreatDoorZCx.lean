/- A cloned trace that is changed: rows of the call's own between two bounds. -/
import Derived.Test.YtbiadennhnokhaaGreatDoorZ39
import Derived.Test.YtbiadennhnokhaaGreatDoorZPr5
namespace Go.Proofs.YtbiadennhnokhaaGreatDoor
open Go.RowKit
set_option linter.unusedSimpArgs false

theorem flat_set {α : Type} (E : α → List Value) (K : Nat) (hK : ∀ x, (E x).length = K) (f : α → α) (o : Nat) (ho : o < K) (u : Value) : ∀ (l : List α) (i : Nat), (∀ hi : i < l.length, (E l[i]).set o u = E (f l[i])) → (l.flatMap E).set (i * K + o) u = (l.modify i f).flatMap E
  | [], i, _ => by simp
  | x :: l, 0, h => by
    have h0 : (E x).set o u = E (f x) := h (by simp)
    rw [List.flatMap_cons, Nat.zero_mul, Nat.zero_add, List.set_append, if_pos (by rw [hK]; exact ho), h0]
    rfl
  | x :: l, i + 1, h => by
    have ih := flat_set E K hK f o ho u l i (fun hi => h (by simpa using hi))
    rw [List.flatMap_cons, List.set_append, if_neg (by rw [hK, Nat.add_mul]; omega), hK, show (i + 1) * K + o - K = i * K + o by rw [Nat.add_mul]; omega, ih]
    rfl
theorem chs_mod (l : List Ch) (k : Nat) (y : Int) : (chs l).set (k * 2) (.int .i64 y) = chs (l.modify k fun c => (y, c.2)) :=
  flat_set encC 2 (fun _ => rfl) (fun c => (y, c.2)) 0 (by decide) (.int .i64 y) l k (fun _ => rfl)
theorem sgs_mod (M : List (Sg × Value)) (i : Nat) (y : Int) : (sgs M).set (i * 3) (.int .i64 y) = sgs (M.modify i fun x => ((y, x.1.2), x.2)) :=
  flat_set sgC 3 (fun _ => rfl) (fun x => ((y, x.1.2), x.2)) 0 (by decide) (.int .i64 y) M i (fun _ => rfl)
theorem scs_mod (S : List Sc) (i : Nat) (b : Bs) : (scs S).set (i * 3) (.string (bsB b)) = scs (S.modify i fun x => (b, x.2)) :=
  flat_set scC 3 (fun _ => rfl) (fun x => (b, x.2)) 0 (by decide) (.string (bsB b)) S i (fun _ => rfl)
theorem vrs_mod (V : List Vr) (i : Nat) (b : Bs) : (vrs V).set (i * 7) (.string (bsB b)) = vrs (V.modify i fun x => { x with nm := b }) :=
  flat_set vrC 7 (fun _ => rfl) (fun x => { x with nm := b }) 0 (by decide) (.string (bsB b)) V i (fun _ => rfl)
theorem gps_mod (P : List Gp) (i : Nat) (y : Int) : (gps P).set (i * 2 + 1) (.int .i64 y) = gps (P.modify i fun x => (x.1, y)) :=
  flat_set gpC 2 (fun _ => rfl) (fun x => (x.1, y)) 1 (by decide) (.int .i64 y) P i (fun _ => rfl)
/-- a row that is the call's own, behind a store anywhere -/
theorem own_any {W : World} {B e size n : Nat} {v : Value} {xs : List Value} (h : W.ownsRow B e size v n xs) (g j : Nat) (u : Value) :
    (W.setCell ⟨g, j, none⟩ u).ownsRow B e size v n (if v.ownBlock = some g then xs.set j u else xs) := by
  by_cases hg : v.ownBlock = some g
  · rw [if_pos hg]
    rcases h.2 with ⟨rfl, -⟩ | ⟨g', cap', cur, rfl, -⟩
    · cases hg
    · obtain rfl : g' = g := by simpa [Value.ownBlock] using hg
      exact own_set h j u
  · rw [if_neg hg]
    exact ownsRow_setCell_other (a := ⟨g, j, none⟩) h hg u
/-- blocks below a bound -/
def OwnG (v : Value) (D : Nat) : Prop := ∀ g, v.ownBlock = some g → g < D
structure CG (B D : Nat) (vg : Value) (W : World) (M : List (Sg × Value)) : Prop where
  g : W.ownsRow B 45 3 vg M.length (sgs M)
  c : ∀ x ∈ M, W.ownsRow B 53 2 x.2 x.1.2.2.length (chs x.1.2.2)
  dg : OwnG vg D
  dc : ∀ x ∈ M, OwnG x.2 D
/-- a change's time is written, in one of the rows -/
def updT (g k : Nat) (y : Int) (x : Sg × Value) : Sg × Value := if x.2.ownBlock = some g then ((x.1.1, x.1.2.1, x.1.2.2.modify k fun c => (y, c.2)), x.2) else x
theorem updT_sg (g k : Nat) (y : Int) (x : Sg × Value) : sgC (updT g k y x) = sgC x := by
  unfold updT
  split <;> rfl
theorem updT_2 (g k : Nat) (y : Int) (x : Sg × Value) : (updT g k y x).2 = x.2 ∧ (updT g k y x).1.1 = x.1.1 ∧ (updT g k y x).1.2.2.length = x.1.2.2.length := by
  unfold updT
  split
  · exact ⟨rfl, rfl, by simp⟩
  · exact ⟨rfl, rfl, rfl⟩
theorem CG.time {B D : Nat} {vg : Value} {W : World} {M : List (Sg × Value)} (h : CG B D vg W M) {x : Sg × Value} (hx : x ∈ M) {g : Nat} (hg : x.2.ownBlock = some g) (k : Nat) (y : Int) :
    CG B D vg (W.setCell ⟨g, k * 2, none⟩ (.int .i64 y)) (M.map (updT g k y)) := by
  refine ⟨?_, ?_, h.dg, ?_⟩
  · have e : sgs (M.map (updT g k y)) = sgs M := by
      unfold sgs
      rw [List.flatMap_map]
      congr 1
      funext x
      exact updT_sg g k y x
    rw [e, List.length_map]
    exact ownsRow_setCell_other (a := ⟨g, k * 2, none⟩) h.g (own_ne h.g (h.c x hx) (by decide) hg) _
  · intro z hz
    obtain ⟨z0, hz0, rfl⟩ := List.mem_map.1 hz
    have h1 := own_any (h.c z0 hz0) g (k * 2) (.int .i64 y)
    unfold updT
    split
    · rename_i hq
      rw [if_pos hq, chs_mod] at h1
      simpa using h1
    · rename_i hq
      rw [if_neg hq] at h1
      exact h1
  · intro z hz
    obtain ⟨z0, hz0, rfl⟩ := List.mem_map.1 hz
    rw [(updT_2 g k y z0).1]
    exact h.dc z0 hz0
theorem CG.kind {B D : Nat} {vg : Value} {W : World} {M : List (Sg × Value)} (h : CG B D vg W M) {g : Nat} (hg : vg.ownBlock = some g) (i : Nat) (y : Int) :
    CG B D vg (W.setCell ⟨g, i * 3, none⟩ (.int .i64 y)) (M.modify i fun x => ((y, x.1.2), x.2)) := by
  have hm : ∀ z ∈ M.modify i (fun x => ((y, x.1.2), x.2)), ∃ z0 ∈ M, z.2 = z0.2 ∧ z.1.2 = z0.1.2 := fun z hz => by
    obtain ⟨j, hj, rfl⟩ := List.mem_iff_getElem.1 hz
    rw [List.getElem_modify]
    split
    · exact ⟨M[j]'(by simpa using hj), List.getElem_mem _, rfl, rfl⟩
    · exact ⟨M[j]'(by simpa using hj), List.getElem_mem _, rfl, rfl⟩
  refine ⟨?_, ?_, h.dg, ?_⟩
  · have h1 := own_any h.g g (i * 3) (.int .i64 y)
    rw [if_pos hg, sgs_mod] at h1
    simpa using h1
  · intro z hz
    obtain ⟨z0, h0, e1, e2⟩ := hm z hz
    rw [e1, e2]
    have h1 := h.c z0 h0
    exact ownsRow_setCell_other (a := ⟨g, i * 3, none⟩) h1 (own_ne h1 h.g (by decide) hg) _
  · intro z hz
    obtain ⟨z0, h0, e1, -⟩ := hm z hz
    rw [e1]
    exact h.dc z0 h0
/-- what lies elsewhere, behind a store into the clone -/
structure Oth (B D : Nat) (b1 b2 b3 : Nat) (C1 C2 C3 : Array Value) (w W : World) (d : TP) (t : Tr) : Prop where
  x : Bx W b1 C1
  y : Bx W b2 C2
  z : Bx W b3 C3
  d : TrO D W t d
  b : Below B w W
theorem Oth.store {B D b1 b2 b3 : Nat} {C1 C2 C3 : Array Value} {w W : World} {d : TP} {t : Tr} (h : Oth B D b1 b2 b3 C1 C2 C3 w W d t) {g : Nat} (h1 : g ≠ b1) (h2 : g ≠ b2) (h3 : g ≠ b3) (hB : B ≤ g) (hD : g < D) (j : Nat) (u : Value) :
    Oth B D b1 b2 b3 C1 C2 C3 w (W.setCell ⟨g, j, none⟩ u) d t := by
  have bx : ∀ {b : Nat} {C : Array Value}, Bx W b C → g ≠ b → Bx (W.setCell ⟨g, j, none⟩ u) b C := fun hb hne => ⟨hb.1.other (a := ⟨g, j, none⟩) hne u, by rw [World.size_setCell]; exact hb.2⟩
  refine ⟨bx h.x h1, bx h.y h2, bx h.z h3, ⟨?_, ?_, ?_, ?_, ?_, h.d.m⟩, h.b.setCell hB u⟩
  · exact ownsRow_setCell_below h.d.s hD u
  · exact ownsRow_setCell_below h.d.v hD u
  · exact ownsRow_setCell_below h.d.g hD u
  · exact fun x hx => ownsRow_setCell_below (h.d.c x hx) hD u
  · exact ownsRow_setCell_below h.d.q hD u
end Go.Proofs.YtbiadennhnokhaaGreatDoor
