/- Plain: a map from strings, said as a function from lists of bytes to values; its look-up, its store, in whatever program. -/
import Derived.Maps.OwnSet
import Derived.RegionTactic
namespace Go.Proofs.YtgnkjcdkfcikeaaGreatDoor
open Go.RowKit Go.WideMaps

abbrev BsM := List UInt8
/-- how an element reads: as itself -/
def vR (v : Value) : Option (DataW Value × List MemPlace) := some (.held v, [])
/-- block b of w is a map from strings, of at most n entries, that reads as f -/
def SMap (P : Program) (K : TypeId) (w : World) (b n : Nat) (f : BsM → Option Value) : Prop :=
  ∃ D : DataW Value, w.ownsMap P K vR b n D ∧ ∀ s : BsM, Maps.has D (.string s) = (f s).isSome ∧ ∀ v, f s = some v → ∀ z, D.atKey (.string s) z = .held v
section
variable {P : Program} {K t e : TypeId} {w : World} {b n : Nat} {f : BsM → Option Value}
theorem SMap.at (h : SMap P K w b n f) (s : BsM) : ∃ D : DataW Value, w.ownsMap P K vR b n D ∧ Maps.has D (.string s) = (f s).isSome ∧ ∀ z, D.atKey (.string s) (.held z) = .held ((f s).getD z) := by
  obtain ⟨D, ho, hf⟩ := h
  obtain ⟨h1, h2⟩ := hf s
  refine ⟨D, ho, h1, fun z => ?_⟩
  cases hs : f s with
  | none =>
    rw [hs] at h1
    exact Maps.atKey_of_not_has h1 _
  | some v => exact h2 v hs _
theorem SMap.look (h : SMap P K w b n f) (hK : P.underlying K = some .string) (ht : P.underlying t = some (.map K e)) {z : Value} (hz : (zeroValue e).run P w = .ok z w) (s : ByteArray) (hs : s.size ≤ maxLen) :
    (Instr.lookup t (.map (some b)) (.string s) true).run P w = .ok (.tuple #[(f s.data.toList).getD z, .bool (f s.data.toList).isSome]) w := by
  obtain ⟨D, ho, h1, h2⟩ := h.at s.data.toList
  obtain ⟨v, ps, hr, hv⟩ := ho.look_ok (Maps.string_keyed hK) ht hz (zd := .held z) (zp := []) rfl (keyOf_string_mk hK hs)
  rw [hr, h1]
  rw [h2 z] at hv
  unfold vR at hv
  injection hv with hv
  injection hv with hv _
  injection hv with hv
  rw [hv]
theorem SMap.look1 (h : SMap P K w b n f) (hK : P.underlying K = some .string) (ht : P.underlying t = some (.map K e)) {z : Value} (hz : (zeroValue e).run P w = .ok z w) (s : ByteArray) (hs : s.size ≤ maxLen) :
    (Instr.lookup t (.map (some b)) (.string s) false).run P w = .ok ((f s.data.toList).getD z) w := by
  obtain ⟨D, ho, h1, h2⟩ := h.at s.data.toList
  obtain ⟨v, ps, hr, hv⟩ := ho.lookup (Maps.string_keyed hK) ht hz (zd := .held z) (zp := []) rfl (keyOf_string_mk hK hs)
  rw [hr]
  rw [h2 z] at hv
  unfold vR at hv
  injection hv with hv
  injection hv with hv _
  injection hv with hv
  rw [hv]
theorem strKey (s : BsM) : WideAt.IsKeyLit (.string s) := trivial
theorem SMap.put (h : SMap P K w b n f) (hK : P.underlying K = some .string) (ht : P.underlying t = some (.map K e)) (hn : n < maxLen) (s : ByteArray) (hs : s.size ≤ maxLen) (v : Value) :
    ∃ w', (Instr.mapUpdate t (.map (some b)) (.string s) v).run P w = .ok () w' ∧ SMap P K w' b (n + 1) (fun x => if x = s.data.toList then some v else f x) ∧ w.grownBy w' (some b) := by
  obtain ⟨D, ho, hf⟩ := h
  obtain ⟨w', hr, ho', hg⟩ := ho.update (Maps.string_keyed hK) ht hn (keyOf_string_mk hK hs) (val := v) (d := .held v) (ps := []) rfl
  refine ⟨w', hr, ⟨_, ho', fun x => ?_⟩, hg⟩
  by_cases hx : x = s.data.toList
  · subst hx
    simp only [if_true]
    refine ⟨Maps.has_put_same ho.isMap (strKey _) _, fun u hu z => ?_⟩
    injection hu with hu
    subst hu
    exact Maps.atKey_put_same ho.isMap (strKey _) _ _
  · have hne : (Lit.string x) ≠ Lit.string s.data.toList := fun h => hx (by injection h)
    simp only [if_neg hx]
    exact ⟨(Maps.has_put_other hne _).trans (hf x).1, fun u hu z => (Maps.atKey_put_other hne _ _).trans ((hf x).2 u hu z)⟩
theorem SMap.made (w : World) (P : Program) (K : TypeId) : SMap P K (w.alloc (.map #[] 0)) w.heap.size 0 (fun _ => none) :=
  ⟨_, World.ownsMap_made w P K vR, fun _ => ⟨rfl, fun _ h => by cases h⟩⟩
theorem SMap.ext (h : SMap P K w b n f) {g : BsM → Option Value} (he : ∀ s, f s = g s) : SMap P K w b n g := by
  rw [show g = f from funext fun s => (he s).symm]
  exact h
theorem SMap.lt (h : SMap P K w b n f) : b < w.heap.size := by
  obtain ⟨D, ho, -⟩ := h
  exact ho.lt
theorem SMap.kept {w' : World} {row : Option Nat} (h : SMap P K w b n f) (hg : w.grownBy w' row) (hne : some b ≠ row) : SMap P K w' b n f := by
  obtain ⟨D, ho, hf⟩ := h
  exact ⟨D, ho.kept hg hne, hf⟩
theorem SMap.same {w' : World} (h : SMap P K w b n f) (hb : w'.heap[b]? = w.heap[b]?) : SMap P K w' b n f := by
  obtain ⟨D, ⟨es, clock, h1, h2⟩, hf⟩ := h
  exact ⟨D, ⟨es, clock, hb.trans h1, h2⟩, hf⟩
theorem SMap.below {w' : World} {B : Nat} (h : SMap P K w b n f) (hb : Below B w w') (hB : b < B) : SMap P K w' b n f := h.same (hb.block b hB)
theorem SMap.setCell {a : Addr} (h : SMap P K w b n f) (ha : b ≠ a.block) (u : Value) : SMap P K (w.setCell a u) b n f := by
  obtain ⟨D, ho, hf⟩ := h
  exact ⟨D, ho.setCell ha u, hf⟩
theorem SMap.alloc (h : SMap P K w b n f) (o : Obj) : SMap P K (w.alloc o) b n f := h.kept (World.grownBy_alloc w o none) (by simp)
theorem SMap.drew (h : SMap P K w b n f) : SMap P K w.drew b n f := h
/-- a map's block is no row -/
theorem SMap.no_cells (h : SMap P K w b n f) {C : Array Value} {T : TypeId} {fr : Nat × Nat} : w.heap[b]? ≠ some (.cells C T fr) := by
  obtain ⟨D, ⟨es, clock, h1, -⟩, -⟩ := h
  rw [h1]
  intro h
  cases h
theorem SMap.ne_row (h : SMap P K w b n f) {B T size m : Nat} {v : Value} {xs : List Value} (ho : w.ownsRow B T size v m xs) : some b ≠ v.ownBlock := by
  rcases ho with ⟨-, ⟨rfl, -⟩ | ⟨g, cap, cur, rfl, -, hg, -⟩⟩
  · intro h; cases h
  · intro e
    injection e with e
    subst e
    exact h.no_cells hg
end
/-- 'm[k] = v' at the operation -/
theorem wpList_put {P : Program} (w : World) {ops : Array Oper} {rest : List Oper} {o : Oper} {a : Act} {Q : Exit → Act → World → Prop}
    (hg : o.guard = none) (m x v : Operand) (t : TypeId) (hop : o.op = Op.mapUpdate t m x v) (K e : TypeId) (hK : P.underlying K = some .string) (ht : P.underlying t = some (.map K e)) (b n : Nat) (f : BsM → Option Value)
    (hm : a.eval m = .map (some b)) (hown : SMap P K w b n f) (hn : n < maxLen) (s : ByteArray) (val : Value) (hx : a.eval x = .string s) (hv : a.eval v = val) (hs : s.size ≤ maxLen)
    (hC : ∀ w', SMap P K w' b (n + 1) (fun x => if x = s.data.toList then some val else f x) → w.grownBy w' (some b) → wpList P ops Q rest (a.put o.dst undef) w') :
    wpList P ops Q (o :: rest) a w := by
  refine wpList_plain hg fun K' hK' => ?_
  obtain ⟨w', hrun, r1, r2⟩ := hown.put hK ht hn s hs val
  unfold Oper.wp
  simp [execOp, hop, hm, hx, hv, hrun, Result.andThen]
  exact hK' _ _ (hC w' r1 r2)
end Go.Proofs.YtgnkjcdkfcikeaaGreatDoor
