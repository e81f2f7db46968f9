import Derived.Test.YtbiadennhnokhaaGreatDoorZ01
import Derived.Test.YtbiadennhnokhaaGreatDoorZ14
import Derived.Maps.OwnSet
import Derived.RegionTactic
import Derived.Laws.Runes
import Derived.Laws.RangeAny
/- The row that a stable sort of variables works on. -/
namespace Go.Proofs.YtbiadennhnokhaaGreatDoor
open Go.RowKit
set_option linter.unusedSimpArgs false

/-- the row of the sort: block g, of the call's own above base -/
abbrev SO (base g n c : Nat) (w : World) (l : List Vr) : Prop := w.ownsRow base 42 7 (.slice (some ⟨g, 0, none⟩) n c) n (vrs l)
theorem vrs_set {X Z : List Vr} (y x : Vr) : ((((((((vrs (X ++ y :: Z)).set (X.length * 7) (.string (bsB x.nm))).set (X.length * 7 + 1) (.int .i64 x.ty)).set (X.length * 7 + 2) (.int .i64 x.sc)).set (X.length * 7 + 3) (.int .i64 x.sg)).set (X.length * 7 + 4) (.bool x.rg)).set (X.length * 7 + 5) (.int .i64 x.mb)).set (X.length * 7 + 6) (.int .i64 x.lb)) = vrs (X ++ x :: Z) := by
  have hl : (vrs X).length = X.length * 7 := by rw [vrs_len, Nat.mul_comm]
  rw [vrs_app, vrs_app, vrs_cons, vrs_cons, ← hl]
  simp only [vrC, List.cons_append, List.nil_append]
  rw [List.set_append_right _ _ (Nat.le_refl _), Nat.sub_self, List.set_cons_zero]
  repeat (rw [List.set_append_right _ _ (by omega), Nat.add_sub_cancel_left])
  simp only [List.set_cons_succ, List.set_cons_zero]
/-- a variable is stored -/
theorem SO.put {base g n c : Nat} {w : World} {X Z : List Vr} {y : Vr} (h : SO base g n c w (X ++ y :: Z)) (x : Vr) :
    SO base g n c (((((((w.setCell ⟨g, X.length * 7, none⟩ (.string (bsB x.nm))).setCell ⟨g, X.length * 7 + 1, none⟩ (.int .i64 x.ty)).setCell ⟨g, X.length * 7 + 2, none⟩ (.int .i64 x.sc)).setCell ⟨g, X.length * 7 + 3, none⟩ (.int .i64 x.sg)).setCell ⟨g, X.length * 7 + 4, none⟩ (.bool x.rg)).setCell ⟨g, X.length * 7 + 5, none⟩ (.int .i64 x.mb)).setCell ⟨g, X.length * 7 + 6, none⟩ (.int .i64 x.lb)) (X ++ x :: Z) := by
  have := own_set (own_set (own_set (own_set (own_set (own_set (own_set h (X.length * 7) (.string (bsB x.nm))) (X.length * 7 + 1) (.int .i64 x.ty)) (X.length * 7 + 2) (.int .i64 x.sc)) (X.length * 7 + 3) (.int .i64 x.sg)) (X.length * 7 + 4) (.bool x.rg)) (X.length * 7 + 5) (.int .i64 x.mb)) (X.length * 7 + 6) (.int .i64 x.lb)
  rw [vrs_set] at this
  exact this
theorem SO.lo {base g n c : Nat} {w : World} {l : List Vr} (h : SO base g n c w l) : base ≤ g ∧ g < w.heap.size := h.lt _ rfl
theorem SO.len {base g n c : Nat} {w : World} {l : List Vr} (h : SO base g n c w l) : l.length = n := by
  have := h.1
  rw [vrs_len] at this
  omega
theorem SO.cap {base g n c : Nat} {w : World} {l : List Vr} (h : SO base g n c w l) : n ≤ c ∧ c ≤ maxLen := by
  obtain ⟨a, cap, hv, h1, h2⟩ := (SlR.of_own h).shape
  injection hv with _ _ e
  subst e
  exact ⟨h1, h2⟩
theorem SO.at {base g n c : Nat} {w : World} {X Z : List Vr} {x : Vr} (h : SO base g n c w (X ++ x :: Z)) :
    w.cell? ⟨g, X.length * 7, none⟩ = some (.string (bsB x.nm)) ∧ w.cell? ⟨g, X.length * 7 + 1, none⟩ = some (.int .i64 x.ty) ∧ w.cell? ⟨g, X.length * 7 + 2, none⟩ = some (.int .i64 x.sc) ∧ w.cell? ⟨g, X.length * 7 + 3, none⟩ = some (.int .i64 x.sg) ∧
      w.cell? ⟨g, X.length * 7 + 4, none⟩ = some (.bool x.rg) ∧ w.cell? ⟨g, X.length * 7 + 5, none⟩ = some (.int .i64 x.mb) ∧ w.cell? ⟨g, X.length * 7 + 6, none⟩ = some (.int .i64 x.lb) := by
  have hr := own_row h
  have hl : (vrs X).length = X.length * 7 := by rw [vrs_len, Nat.mul_comm]
  have aux : ∀ (j : Nat) (u : Value), (vrC x)[j]? = some u → w.cell? ⟨g, X.length * 7 + j, none⟩ = some u := fun j u hu => hr.cell (j := X.length * 7 + j) (by
    rw [vrs_app, vrs_cons, ← hl, List.getElem?_append_right (Nat.le_add_right _ _), Nat.add_sub_cancel_left, List.getElem?_append_left (List.getElem?_eq_some_iff.1 hu).1]
    exact hu)
  exact ⟨aux 0 _ rfl, aux 1 _ rfl, aux 2 _ rfl, aux 3 _ rfl, aux 4 _ rfl, aux 5 _ rfl, aux 6 _ rfl⟩
theorem own_frozen {w : World} {B e size n : Nat} {g c : Nat} {xs : List Value} (h : w.ownsRow B e size (.slice (some ⟨g, 0, none⟩) n c) n xs) (o : Nat) : w.frozen? ⟨g, o, none⟩ = false := by
  rcases h.2 with ⟨h0, -⟩ | ⟨g', cap', cur, h0, hbase, hb, hn, hm, hsz, htk⟩
  · cases h0
  injection h0 with e1 _ e3
  injection e1 with e1
  injection e1 with e1 _ _
  subst e1 e3
  simp [World.frozen?, hb]
theorem SO.after {base g n c : Nat} {w w' : World} {l : List Vr} (h : SO base g n c w l) (hb : RowKit.Below w.heap.size w w') : SO base g n c w' l :=
  h.kept (row := none) ⟨hb.os, hb.tape, hb.output, hb.size, fun i hi _ => hb.block i hi⟩ (by simp [Value.ownBlock])
/-- the seven cells of a variable are stored -/
abbrev put7 (w : World) (g o : Nat) (x : Vr) : World := ((((((w.setCell ⟨g, o, none⟩ (.string (bsB x.nm))).setCell ⟨g, o + 1, none⟩ (.int .i64 x.ty)).setCell ⟨g, o + 2, none⟩ (.int .i64 x.sc)).setCell ⟨g, o + 3, none⟩ (.int .i64 x.sg)).setCell ⟨g, o + 4, none⟩ (.bool x.rg)).setCell ⟨g, o + 5, none⟩ (.int .i64 x.mb)).setCell ⟨g, o + 6, none⟩ (.int .i64 x.lb)
theorem below_put7 {base g : Nat} {w v : World} (h : RowKit.Below base w v) (hg : base ≤ g) (o : Nat) (x : Vr) : RowKit.Below base w (put7 v g o x) :=
  ((((((h.setCell hg _).setCell hg _).setCell hg _).setCell hg _).setCell hg _).setCell hg _).setCell hg _
theorem SO.swap {base g n c : Nat} {w : World} {X Y Z : List Vr} {x y : Vr} (h : SO base g n c w (X ++ x :: (Y ++ y :: Z))) {p q : Nat} (hp : X.length = p) (hq : X.length + 1 + Y.length = q) :
    SO base g n c (put7 (put7 w g (p * 7) y) g (q * 7) x) (X ++ y :: (Y ++ x :: Z)) ∧ RowKit.Below base w (put7 (put7 w g (p * 7) y) g (q * 7) x) := by
  have h1 := h.put y
  rw [show X ++ y :: (Y ++ y :: Z) = (X ++ y :: Y) ++ y :: Z by simp] at h1
  have h2 := SO.put h1 x
  rw [show (X ++ y :: Y) ++ x :: Z = X ++ y :: (Y ++ x :: Z) by simp, List.length_append, List.length_cons, show X.length + (Y.length + 1) = q by omega, hp] at h2
  exact ⟨h2, below_put7 (below_put7 (Below.refl _ _) h.lo.1 _ _) h.lo.1 _ _⟩
theorem SO.swap2 {base g n c : Nat} {w : World} {X Y Z : List Vr} {x y : Vr} (h : SO base g n c w (X ++ x :: (Y ++ y :: Z))) {p q : Nat} (hp : X.length = p) (hq : X.length + 1 + Y.length = q) :
    SO base g n c (put7 (put7 w g (q * 7) x) g (p * 7) y) (X ++ y :: (Y ++ x :: Z)) ∧ RowKit.Below base w (put7 (put7 w g (q * 7) x) g (p * 7) y) := by
  rw [show X ++ x :: (Y ++ y :: Z) = (X ++ x :: Y) ++ y :: Z by simp] at h
  have h1 := SO.put h x
  rw [show (X ++ x :: Y) ++ x :: Z = X ++ x :: (Y ++ x :: Z) by simp, List.length_append, List.length_cons, show X.length + (Y.length + 1) = q by omega] at h1
  have h2 := SO.put h1 y
  rw [hp] at h2
  exact ⟨h2, below_put7 (below_put7 (Below.refl _ _) h.lo.1 _ _) h.lo.1 _ _⟩
end Go.Proofs.YtbiadennhnokhaaGreatDoor
/- Plain: a map from strings, said as a function from lists of bytes to values; its look-up, its store, in whatever program. -/
namespace Go.Proofs.YtbiadennhnokhaaGreatDoor
open Go.RowKit Go.WideMaps

abbrev BsM := List UInt8
/-- how an element reads: as itself -/
def vR (v : Value) : Option (DataW Value × List MemPlace) := some (.held v, [])
/-- block b of w is a map from strings, of at most n entries, that reads as f -/
def SMap (P : Program) (K : TypeId) (w : World) (b n : Nat) (f : BsM → Option Value) : Prop :=
  ∃ D : DataW Value, w.ownsMap P K vR b n D ∧ ∀ s : BsM, Maps.has D (.string s) = (f s).isSome ∧ ∀ v, f s = some v → ∀ z, D.atKey (.string s) z = .held v
section
variable {P : Program} {K t e : TypeId} {w : World} {b n : Nat} {f : BsM → Option Value}
theorem SMap.at (h : SMap P K w b n f) (s : BsM) : ∃ D : DataW Value, w.ownsMap P K vR b n D ∧ Maps.has D (.string s) = (f s).isSome ∧ ∀ z, D.atKey (.string s) (.held z) = .held ((f s).getD z) := by
  obtain ⟨D, ho, hf⟩ := h
  obtain ⟨h1, h2⟩ := hf s
  refine ⟨D, ho, h1, fun z => ?_⟩
  cases hs : f s with
  | none =>
    rw [hs] at h1
    exact Maps.atKey_of_not_has h1 _
  | some v => exact h2 v hs _
theorem SMap.look (h : SMap P K w b n f) (hK : P.underlying K = some .string) (ht : P.underlying t = some (.map K e)) {z : Value} (hz : (zeroValue e).run P w = .ok z w) (s : ByteArray) (hs : s.size ≤ maxLen) :
    (Instr.lookup t (.map (some b)) (.string s) true).run P w = .ok (.tuple #[(f s.data.toList).getD z, .bool (f s.data.toList).isSome]) w := by
  obtain ⟨D, ho, h1, h2⟩ := h.at s.data.toList
  obtain ⟨v, ps, hr, hv⟩ := ho.look_ok (Maps.string_keyed hK) ht hz (zd := .held z) (zp := []) rfl (keyOf_string_mk hK hs)
  rw [hr, h1]
  rw [h2 z] at hv
  unfold vR at hv
  injection hv with hv
  injection hv with hv _
  injection hv with hv
  rw [hv]
theorem SMap.look1 (h : SMap P K w b n f) (hK : P.underlying K = some .string) (ht : P.underlying t = some (.map K e)) {z : Value} (hz : (zeroValue e).run P w = .ok z w) (s : ByteArray) (hs : s.size ≤ maxLen) :
    (Instr.lookup t (.map (some b)) (.string s) false).run P w = .ok ((f s.data.toList).getD z) w := by
  obtain ⟨D, ho, h1, h2⟩ := h.at s.data.toList
  obtain ⟨v, ps, hr, hv⟩ := ho.lookup (Maps.string_keyed hK) ht hz (zd := .held z) (zp := []) rfl (keyOf_string_mk hK hs)
  rw [hr]
  rw [h2 z] at hv
  unfold vR at hv
  injection hv with hv
  injection hv with hv _
  injection hv with hv
  rw [hv]
theorem strKey (s : BsM) : WideAt.IsKeyLit (.string s) := trivial
theorem SMap.put (h : SMap P K w b n f) (hK : P.underlying K = some .string) (ht : P.underlying t = some (.map K e)) (hn : n < maxLen) (s : ByteArray) (hs : s.size ≤ maxLen) (v : Value) :
    ∃ w', (Instr.mapUpdate t (.map (some b)) (.string s) v).run P w = .ok () w' ∧ SMap P K w' b (n + 1) (fun x => if x = s.data.toList then some v else f x) ∧ w.grownBy w' (some b) := by
  obtain ⟨D, ho, hf⟩ := h
  obtain ⟨w', hr, ho', hg⟩ := ho.update (Maps.string_keyed hK) ht hn (keyOf_string_mk hK hs) (val := v) (d := .held v) (ps := []) rfl
  refine ⟨w', hr, ⟨_, ho', fun x => ?_⟩, hg⟩
  by_cases hx : x = s.data.toList
  · subst hx
    simp only [if_true]
    refine ⟨Maps.has_put_same ho.isMap (strKey _) _, fun u hu z => ?_⟩
    injection hu with hu
    subst hu
    exact Maps.atKey_put_same ho.isMap (strKey _) _ _
  · have hne : (Lit.string x) ≠ Lit.string s.data.toList := fun h => hx (by injection h)
    simp only [if_neg hx]
    exact ⟨(Maps.has_put_other hne _).trans (hf x).1, fun u hu z => (Maps.atKey_put_other hne _ _).trans ((hf x).2 u hu z)⟩
theorem SMap.made (w : World) (P : Program) (K : TypeId) : SMap P K (w.alloc (.map #[] 0)) w.heap.size 0 (fun _ => none) :=
  ⟨_, World.ownsMap_made w P K vR, fun _ => ⟨rfl, fun _ h => by cases h⟩⟩
theorem SMap.ext (h : SMap P K w b n f) {g : BsM → Option Value} (he : ∀ s, f s = g s) : SMap P K w b n g := by
  rw [show g = f from funext fun s => (he s).symm]
  exact h
theorem SMap.lt (h : SMap P K w b n f) : b < w.heap.size := by
  obtain ⟨D, ho, -⟩ := h
  exact ho.lt
theorem SMap.kept {w' : World} {row : Option Nat} (h : SMap P K w b n f) (hg : w.grownBy w' row) (hne : some b ≠ row) : SMap P K w' b n f := by
  obtain ⟨D, ho, hf⟩ := h
  exact ⟨D, ho.kept hg hne, hf⟩
theorem SMap.same {w' : World} (h : SMap P K w b n f) (hb : w'.heap[b]? = w.heap[b]?) : SMap P K w' b n f := by
  obtain ⟨D, ⟨es, clock, h1, h2⟩, hf⟩ := h
  exact ⟨D, ⟨es, clock, hb.trans h1, h2⟩, hf⟩
theorem SMap.below {w' : World} {B : Nat} (h : SMap P K w b n f) (hb : Below B w w') (hB : b < B) : SMap P K w' b n f := h.same (hb.block b hB)
theorem SMap.setCell {a : Addr} (h : SMap P K w b n f) (ha : b ≠ a.block) (u : Value) : SMap P K (w.setCell a u) b n f := by
  obtain ⟨D, ho, hf⟩ := h
  exact ⟨D, ho.setCell ha u, hf⟩
theorem SMap.alloc (h : SMap P K w b n f) (o : Obj) : SMap P K (w.alloc o) b n f := h.kept (World.grownBy_alloc w o none) (by simp)
theorem SMap.drew (h : SMap P K w b n f) : SMap P K w.drew b n f := h
/-- a map's block is no row -/
theorem SMap.no_cells (h : SMap P K w b n f) {C : Array Value} {T : TypeId} {fr : Nat × Nat} : w.heap[b]? ≠ some (.cells C T fr) := by
  obtain ⟨D, ⟨es, clock, h1, -⟩, -⟩ := h
  rw [h1]
  intro h
  cases h
theorem SMap.ne_row (h : SMap P K w b n f) {B T size m : Nat} {v : Value} {xs : List Value} (ho : w.ownsRow B T size v m xs) : some b ≠ v.ownBlock := by
  rcases ho with ⟨-, ⟨rfl, -⟩ | ⟨g, cap, cur, rfl, -, hg, -⟩⟩
  · intro h; cases h
  · intro e
    injection e with e
    subst e
    exact h.no_cells hg
end
end Go.Proofs.YtbiadennhnokhaaGreatDoor
/- Plain: a map from keys of whatever kind, said as a function; its look-up, its store, in whatever program. -/
namespace Go.Proofs.YtbiadennhnokhaaGreatDoor
open Go.RowKit Go.WideMaps

/-- how keys are values, and how they read -/
structure KeyEnc (P : Program) (K : TypeId) (κ : Type) where
  vK : κ → Value
  lK : κ → Lit
  dom : κ → Prop
  key : ∀ x, dom x → WideAt.IsKeyLit (lK x)
  of : ∀ x, dom x → keyOf P K (vK x) = some (lK x)
  inj : ∀ x y, dom x → dom y → lK x = lK y → x = y
  law : Maps.Keyed P K
/-- block b of w is a map of at most n entries that reads as f -/
def KMap {P : Program} {K : TypeId} {κ : Type} (E : KeyEnc P K κ) (w : World) (b n : Nat) (f : κ → Option Value) : Prop :=
  ∃ D : DataW Value, w.ownsMap P K vR b n D ∧ ∀ x, E.dom x → Maps.has D (E.lK x) = (f x).isSome ∧ ∀ v, f x = some v → ∀ z, D.atKey (E.lK x) z = .held v
section
variable {P : Program} {K t e : TypeId} {κ : Type} {E : KeyEnc P K κ} {w : World} {b n : Nat} {f : κ → Option Value}
theorem KMap.at (h : KMap E w b n f) (x : κ) (hx : E.dom x) : ∃ D : DataW Value, w.ownsMap P K vR b n D ∧ Maps.has D (E.lK x) = (f x).isSome ∧ ∀ z, D.atKey (E.lK x) (.held z) = .held ((f x).getD z) := by
  obtain ⟨D, ho, hf⟩ := h
  obtain ⟨h1, h2⟩ := hf x hx
  refine ⟨D, ho, h1, fun z => ?_⟩
  cases hs : f x with
  | none =>
    rw [hs] at h1
    exact Maps.atKey_of_not_has h1 _
  | some v => exact h2 v hs _
theorem KMap.look (h : KMap E w b n f) (ht : P.underlying t = some (.map K e)) {z : Value} (hz : (zeroValue e).run P w = .ok z w) (x : κ) (hx : E.dom x) :
    (Instr.lookup t (.map (some b)) (E.vK x) true).run P w = .ok (.tuple #[(f x).getD z, .bool (f x).isSome]) w := by
  obtain ⟨D, ho, h1, h2⟩ := h.at x hx
  obtain ⟨v, ps, hr, hv⟩ := ho.look_ok E.law ht hz (zd := .held z) (zp := []) rfl (E.of x hx)
  rw [hr, h1]
  rw [h2 z] at hv
  unfold vR at hv
  injection hv with hv
  injection hv with hv _
  injection hv with hv
  rw [hv]
theorem KMap.look1 (h : KMap E w b n f) (ht : P.underlying t = some (.map K e)) {z : Value} (hz : (zeroValue e).run P w = .ok z w) (x : κ) (hx : E.dom x) :
    (Instr.lookup t (.map (some b)) (E.vK x) false).run P w = .ok ((f x).getD z) w := by
  obtain ⟨D, ho, h1, h2⟩ := h.at x hx
  obtain ⟨v, ps, hr, hv⟩ := ho.lookup E.law ht hz (zd := .held z) (zp := []) rfl (E.of x hx)
  rw [hr]
  rw [h2 z] at hv
  unfold vR at hv
  injection hv with hv
  injection hv with hv _
  injection hv with hv
  rw [hv]
theorem KMap.put [DecidableEq κ] (h : KMap E w b n f) (ht : P.underlying t = some (.map K e)) (hn : n < maxLen) (x : κ) (hx : E.dom x) (v : Value) :
    ∃ w', (Instr.mapUpdate t (.map (some b)) (E.vK x) v).run P w = .ok () w' ∧ KMap E w' b (n + 1) (fun y => if y = x then some v else f y) ∧ w.grownBy w' (some b) := by
  obtain ⟨D, ho, hf⟩ := h
  obtain ⟨w', hr, ho', hg⟩ := ho.update E.law ht hn (E.of x hx) (val := v) (d := .held v) (ps := []) rfl
  refine ⟨w', hr, ⟨_, ho', fun y hy => ?_⟩, hg⟩
  by_cases hxy : y = x
  · subst hxy
    simp only [if_true]
    refine ⟨Maps.has_put_same ho.isMap (E.key _ hx) _, fun u hu z => ?_⟩
    injection hu with hu
    subst hu
    exact Maps.atKey_put_same ho.isMap (E.key _ hx) _ _
  · have hne : E.lK y ≠ E.lK x := fun h => hxy (E.inj _ _ hy hx h)
    simp only [if_neg hxy]
    exact ⟨(Maps.has_put_other hne _).trans (hf y hy).1, fun u hu z => (Maps.atKey_put_other hne _ _).trans ((hf y hy).2 u hu z)⟩
theorem KMap.made (E : KeyEnc P K κ) (w : World) : KMap E (w.alloc (.map #[] 0)) w.heap.size 0 (fun _ => none) :=
  ⟨_, World.ownsMap_made w P K vR, fun _ _ => ⟨rfl, fun _ h => by cases h⟩⟩
theorem KMap.ext (h : KMap E w b n f) {g : κ → Option Value} (he : ∀ s, f s = g s) : KMap E w b n g := by
  rw [show g = f from funext fun s => (he s).symm]
  exact h
theorem KMap.lt (h : KMap E w b n f) : b < w.heap.size := by
  obtain ⟨D, ho, -⟩ := h
  exact ho.lt
theorem KMap.kept {w' : World} {row : Option Nat} (h : KMap E w b n f) (hg : w.grownBy w' row) (hne : some b ≠ row) : KMap E w' b n f := by
  obtain ⟨D, ho, hf⟩ := h
  exact ⟨D, ho.kept hg hne, hf⟩
theorem KMap.same {w' : World} (h : KMap E w b n f) (hb : w'.heap[b]? = w.heap[b]?) : KMap E w' b n f := by
  obtain ⟨D, ⟨es, clock, h1, h2⟩, hf⟩ := h
  exact ⟨D, ⟨es, clock, hb.trans h1, h2⟩, hf⟩
theorem KMap.below {w' : World} {B : Nat} (h : KMap E w b n f) (hb : RowKit.Below B w w') (hB : b < B) : KMap E w' b n f := h.same (hb.block b hB)
theorem KMap.setCell {a : Addr} (h : KMap E w b n f) (ha : b ≠ a.block) (u : Value) : KMap E (w.setCell a u) b n f := by
  obtain ⟨D, ho, hf⟩ := h
  exact ⟨D, ho.setCell ha u, hf⟩
theorem KMap.more {n' : Nat} (h : KMap E w b n f) (hn : n ≤ n') : KMap E w b n' f := by
  obtain ⟨D, ho, hf⟩ := h
  exact ⟨D, ho.mono hn, hf⟩
theorem KMap.no_cells (h : KMap E w b n f) {C : Array Value} {T : TypeId} {fr : Nat × Nat} : w.heap[b]? ≠ some (.cells C T fr) := by
  obtain ⟨D, ⟨es, clock, h1, -⟩, -⟩ := h
  rw [h1]
  intro h
  cases h
theorem KMap.ne_row (h : KMap E w b n f) {B T size m : Nat} {v : Value} {xs : List Value} (ho : w.ownsRow B T size v m xs) : some b ≠ v.ownBlock := by
  rcases ho with ⟨-, ⟨rfl, -⟩ | ⟨g, cap, cur, rfl, -, hg, -⟩⟩
  · intro h; cases h
  · intro e
    injection e with e
    subst e
    exact h.no_cells hg
end
/-- 'm[k] = v' at the operation -/
theorem wpList_putK {P : Program} {K : TypeId} {κ : Type} [DecidableEq κ] {E : KeyEnc P K κ} (w : World) {ops : Array Oper} {rest : List Oper} {o : Oper} {a : Act} {Q : Exit → Act → World → Prop}
    (hg : o.guard = none) (m x v : Operand) (t : TypeId) (hop : o.op = Op.mapUpdate t m x v) (e : TypeId) (ht : P.underlying t = some (.map K e)) (b n : Nat) (f : κ → Option Value)
    (hm : a.eval m = .map (some b)) (hown : KMap E w b n f) (hn : n < maxLen) (k : κ) (val : Value) (hx : a.eval x = E.vK k) (hv : a.eval v = val) (hk : E.dom k)
    (hC : ∀ w', KMap E w' b (n + 1) (fun y => if y = k then some val else f y) → w.grownBy w' (some b) → wpList P ops Q rest (a.put o.dst undef) w') :
    wpList P ops Q (o :: rest) a w := by
  refine wpList_plain hg fun K' hK' => ?_
  obtain ⟨w', hrun, r1, r2⟩ := hown.put ht hn k hk val
  unfold Oper.wp
  simp [execOp, hop, hm, hx, hv, hrun, Result.andThen]
  exact hK' _ _ (hC w' r1 r2)
/-- keys that are numbers -/
def intEnc {P : Program} {K : TypeId} (hK : P.underlying K = some (.int .i64)) : KeyEnc P K Int where
  vK x := .int .i64 x
  lK x := .int .i64 x
  dom x := (Lit.int .i64 x).wf = true
  key _ _ := trivial
  of x hx := Maps.keyOf_int_mk hK hx
  inj x y _ _ h := by injection h
  law := Maps.int_keyed hK
end Go.Proofs.YtbiadennhnokhaaGreatDoor
/- Does a list of scopes, of variables or of gaps hold an element that a closure takes? -/
namespace Go.Proofs.YtbiadennhnokhaaGreatDoor
open Go.RowKit
set_option linter.unusedSimpArgs false

def IxP (b : Bool) (w : World) (e : Ending) (w' : World) : Prop := (∃ i : Int, e = .returned (.int .i64 i) ∧ decide (0 ≤ i) = b ∧ -1 ≤ i) ∧ Below w.heap.size w w'
theorem any_drop2 {α : Type} {p : α → Bool} {L : List α} {j : Nat} (h : j < L.length) : (L.drop j).any p = (p L[j] || (L.drop (j + 1)).any p) := by
  rw [List.drop_eq_getElem_cons h, List.any_cons]
set_option maxHeartbeats 400000 in
set_option maxRecDepth 100000 in
theorem ix_dcl (pt : Nat) (p : Vr → Bool) (v : Value) (L : List (Vr)) (w : World) (hs : SlR w v L.length (vrs L))
    (hF : ∀ x ∈ L, ∀ W, Below w.heap.size w W → Calls Tryz.prog 259 #[vrV x, .pointer (some ⟨pt, 0, none⟩)] W fun e w' => e = .returned (.bool (p x)) ∧ Below W.heap.size W w') :
    Calls Tryz.prog 265 #[v, .func (.func 259) #[] #[.pointer (some ⟨pt, 0, none⟩)]] w (IxP (L.any p) w) := by
  obtain ⟨a, cap, rfl, hc, hm⟩ := hs.shape
  unfold maxLen at hm
  have HS := Lib.hid hs
  have HF := Lib.hid hF
  clear hs hF
  go_enter Tryz.func265, Tryz.ntmps265
  go_wp2_with fail
  go_loopw [8] (fun i wr => ∃ j : Nat, j ≤ L.length ∧ i = .int .i64 j ∧ (L.drop j).any p = L.any p ∧ Below w.heap.size w wr) (fun i _ => L.length - (intOf i).toNat)
  case atStart => exact ⟨0, Nat.zero_le _, rfl, rfl, Below.refl _ _⟩
  case round =>
    obtain ⟨j, hj, rfl, hgo, hb⟩ := hrel
    have HGO := Lib.hid hgo
    have HB := Lib.hid hb
    clear hgo hb
    by_cases hlt : j < L.length
    · obtain ⟨b, o, rfl, hcell⟩ := (HS.out.below HB.out).vrs hlt
      have HC := Lib.hid (fun W hW => HF.out L[j] (List.getElem_mem hlt) W hW)
      have HGO2 := Lib.hid ((any_drop2 (p := p) hlt).symm.trans HGO.out)
      have HPX := Lib.hid (Eq.refl (p L[j]))
      generalize L[j] = x at hcell HC HGO2 HPX
      obtain ⟨px, hpx⟩ : ∃ px, px = p x := ⟨_, rfl⟩
      rw [← hpx] at HC HGO2
      clear HPX hpx
      obtain ⟨nm, ty, sc, sg, rg, mb, lb⟩ := x
      have d0 : wr.cell? ⟨b, o + j * 7, none⟩ = some (.string (bsB nm)) := hcell 0 _ rfl
      have d1 : wr.cell? ⟨b, o + j * 7 + 1, none⟩ = some (.int .i64 ty) := hcell 1 _ rfl
      have d2 : wr.cell? ⟨b, o + j * 7 + 2, none⟩ = some (.int .i64 sc) := hcell 2 _ rfl
      have d3 : wr.cell? ⟨b, o + j * 7 + 3, none⟩ = some (.int .i64 sg) := hcell 3 _ rfl
      have d4 : wr.cell? ⟨b, o + j * 7 + 4, none⟩ = some (.bool rg) := hcell 4 _ rfl
      have d5 : wr.cell? ⟨b, o + j * 7 + 5, none⟩ = some (.int .i64 mb) := hcell 5 _ rfl
      have d6 : wr.cell? ⟨b, o + j * 7 + 6, none⟩ = some (.int .i64 lb) := hcell 6 _ rfl
      clear hcell
      go_wp2_with fail
      refine (HC.out _ HB.out).mono ?_
      rintro e w1 ⟨rfl, hb1⟩
      have HB1 := Lib.hid (ext_trans HB.out hb1)
      clear hb1
      cases px
      · have HGO3 := Lib.hid (show (L.drop (j + 1)).any p = L.any p by rw [← HGO2.out, Bool.false_or])
        go_wp2_with fail
        go_roundw
        case rel => exact ⟨j + 1, by omega, by go_num, HGO3.out, HB1.out⟩
        case measure => simp [intOf]; omega
      · have HR := Lib.hid (show true = L.any p by rw [← HGO2.out]; rfl)
        go_wp2_with fail
        go_ret
        exact ⟨⟨j, rfl, by rw [← HR.out]; simp, by omega⟩, HB1.out⟩
    · obtain rfl : j = L.length := by omega
      have HR := Lib.hid (show false = L.any p by rw [← HGO.out, List.drop_length]; rfl)
      go_wp2_with fail
      go_ret
      exact ⟨⟨-1, rfl, by rw [← HR.out]; rfl, by omega⟩, HB.out⟩
set_option maxHeartbeats 400000 in
theorem con_dcl (pt : Nat) (p : Vr → Bool) (v : Value) (L : List (Vr)) (w : World) (hs : SlR w v L.length (vrs L))
    (hF : ∀ x ∈ L, ∀ W, Below w.heap.size w W → Calls Tryz.prog 259 #[vrV x, .pointer (some ⟨pt, 0, none⟩)] W fun e w' => e = .returned (.bool (p x)) ∧ Below W.heap.size W w') :
    Calls Tryz.prog 210 #[v, .func (.func 259) #[] #[.pointer (some ⟨pt, 0, none⟩)]] w fun e w' => e = .returned (.bool (L.any p)) ∧ Below w.heap.size w w' := by
  have HI := Lib.hid (ix_dcl pt p v L w hs hF)
  generalize L.any p = r at HI ⊢
  obtain ⟨a, cap, rfl, hc, hm⟩ := hs.shape
  clear hs hF
  go_enter Tryz.func210, Tryz.ntmps210
  go_wp2_with fail
  refine HI.out.mono ?_
  rintro e w1 ⟨⟨i, rfl, hi, hi1⟩, hb⟩
  have HH := Lib.hid hi
  clear hi
  go_wp2_with fail
  go_ret
  exact ⟨ret_bool HH.out, hb⟩
set_option maxHeartbeats 400000 in
set_option maxRecDepth 100000 in
theorem ix_vnm (pt : Nat) (p : Vr → Bool) (v : Value) (L : List (Vr)) (w : World) (hs : SlR w v L.length (vrs L))
    (hF : ∀ x ∈ L, ∀ W, Below w.heap.size w W → Calls Tryz.prog 211 #[vrV x, .pointer (some ⟨pt, 0, none⟩)] W fun e w' => e = .returned (.bool (p x)) ∧ Below W.heap.size W w') :
    Calls Tryz.prog 265 #[v, .func (.func 211) #[] #[.pointer (some ⟨pt, 0, none⟩)]] w (IxP (L.any p) w) := by
  obtain ⟨a, cap, rfl, hc, hm⟩ := hs.shape
  unfold maxLen at hm
  have HS := Lib.hid hs
  have HF := Lib.hid hF
  clear hs hF
  go_enter Tryz.func265, Tryz.ntmps265
  go_wp2_with fail
  go_loopw [8] (fun i wr => ∃ j : Nat, j ≤ L.length ∧ i = .int .i64 j ∧ (L.drop j).any p = L.any p ∧ Below w.heap.size w wr) (fun i _ => L.length - (intOf i).toNat)
  case atStart => exact ⟨0, Nat.zero_le _, rfl, rfl, Below.refl _ _⟩
  case round =>
    obtain ⟨j, hj, rfl, hgo, hb⟩ := hrel
    have HGO := Lib.hid hgo
    have HB := Lib.hid hb
    clear hgo hb
    by_cases hlt : j < L.length
    · obtain ⟨b, o, rfl, hcell⟩ := (HS.out.below HB.out).vrs hlt
      have HC := Lib.hid (fun W hW => HF.out L[j] (List.getElem_mem hlt) W hW)
      have HGO2 := Lib.hid ((any_drop2 (p := p) hlt).symm.trans HGO.out)
      have HPX := Lib.hid (Eq.refl (p L[j]))
      generalize L[j] = x at hcell HC HGO2 HPX
      obtain ⟨px, hpx⟩ : ∃ px, px = p x := ⟨_, rfl⟩
      rw [← hpx] at HC HGO2
      clear HPX hpx
      obtain ⟨nm, ty, sc, sg, rg, mb, lb⟩ := x
      have d0 : wr.cell? ⟨b, o + j * 7, none⟩ = some (.string (bsB nm)) := hcell 0 _ rfl
      have d1 : wr.cell? ⟨b, o + j * 7 + 1, none⟩ = some (.int .i64 ty) := hcell 1 _ rfl
      have d2 : wr.cell? ⟨b, o + j * 7 + 2, none⟩ = some (.int .i64 sc) := hcell 2 _ rfl
      have d3 : wr.cell? ⟨b, o + j * 7 + 3, none⟩ = some (.int .i64 sg) := hcell 3 _ rfl
      have d4 : wr.cell? ⟨b, o + j * 7 + 4, none⟩ = some (.bool rg) := hcell 4 _ rfl
      have d5 : wr.cell? ⟨b, o + j * 7 + 5, none⟩ = some (.int .i64 mb) := hcell 5 _ rfl
      have d6 : wr.cell? ⟨b, o + j * 7 + 6, none⟩ = some (.int .i64 lb) := hcell 6 _ rfl
      clear hcell
      go_wp2_with fail
      refine (HC.out _ HB.out).mono ?_
      rintro e w1 ⟨rfl, hb1⟩
      have HB1 := Lib.hid (ext_trans HB.out hb1)
      clear hb1
      cases px
      · have HGO3 := Lib.hid (show (L.drop (j + 1)).any p = L.any p by rw [← HGO2.out, Bool.false_or])
        go_wp2_with fail
        go_roundw
        case rel => exact ⟨j + 1, by omega, by go_num, HGO3.out, HB1.out⟩
        case measure => simp [intOf]; omega
      · have HR := Lib.hid (show true = L.any p by rw [← HGO2.out]; rfl)
        go_wp2_with fail
        go_ret
        exact ⟨⟨j, rfl, by rw [← HR.out]; simp, by omega⟩, HB1.out⟩
    · obtain rfl : j = L.length := by omega
      have HR := Lib.hid (show false = L.any p by rw [← HGO.out, List.drop_length]; rfl)
      go_wp2_with fail
      go_ret
      exact ⟨⟨-1, rfl, by rw [← HR.out]; rfl, by omega⟩, HB.out⟩
set_option maxHeartbeats 400000 in
theorem con_vnm (pt : Nat) (p : Vr → Bool) (v : Value) (L : List (Vr)) (w : World) (hs : SlR w v L.length (vrs L))
    (hF : ∀ x ∈ L, ∀ W, Below w.heap.size w W → Calls Tryz.prog 211 #[vrV x, .pointer (some ⟨pt, 0, none⟩)] W fun e w' => e = .returned (.bool (p x)) ∧ Below W.heap.size W w') :
    Calls Tryz.prog 210 #[v, .func (.func 211) #[] #[.pointer (some ⟨pt, 0, none⟩)]] w fun e w' => e = .returned (.bool (L.any p)) ∧ Below w.heap.size w w' := by
  have HI := Lib.hid (ix_vnm pt p v L w hs hF)
  generalize L.any p = r at HI ⊢
  obtain ⟨a, cap, rfl, hc, hm⟩ := hs.shape
  clear hs hF
  go_enter Tryz.func210, Tryz.ntmps210
  go_wp2_with fail
  refine HI.out.mono ?_
  rintro e w1 ⟨⟨i, rfl, hi, hi1⟩, hb⟩
  have HH := Lib.hid hi
  clear hi
  go_wp2_with fail
  go_ret
  exact ⟨ret_bool HH.out, hb⟩
set_option maxHeartbeats 400000 in
set_option maxRecDepth 100000 in
theorem ix_vty (pt : Nat) (p : Vr → Bool) (v : Value) (L : List (Vr)) (w : World) (hs : SlR w v L.length (vrs L))
    (hF : ∀ x ∈ L, ∀ W, Below w.heap.size w W → Calls Tryz.prog 213 #[vrV x, .pointer (some ⟨pt, 0, none⟩)] W fun e w' => e = .returned (.bool (p x)) ∧ Below W.heap.size W w') :
    Calls Tryz.prog 265 #[v, .func (.func 213) #[] #[.pointer (some ⟨pt, 0, none⟩)]] w (IxP (L.any p) w) := by
  obtain ⟨a, cap, rfl, hc, hm⟩ := hs.shape
  unfold maxLen at hm
  have HS := Lib.hid hs
  have HF := Lib.hid hF
  clear hs hF
  go_enter Tryz.func265, Tryz.ntmps265
  go_wp2_with fail
  go_loopw [8] (fun i wr => ∃ j : Nat, j ≤ L.length ∧ i = .int .i64 j ∧ (L.drop j).any p = L.any p ∧ Below w.heap.size w wr) (fun i _ => L.length - (intOf i).toNat)
  case atStart => exact ⟨0, Nat.zero_le _, rfl, rfl, Below.refl _ _⟩
  case round =>
    obtain ⟨j, hj, rfl, hgo, hb⟩ := hrel
    have HGO := Lib.hid hgo
    have HB := Lib.hid hb
    clear hgo hb
    by_cases hlt : j < L.length
    · obtain ⟨b, o, rfl, hcell⟩ := (HS.out.below HB.out).vrs hlt
      have HC := Lib.hid (fun W hW => HF.out L[j] (List.getElem_mem hlt) W hW)
      have HGO2 := Lib.hid ((any_drop2 (p := p) hlt).symm.trans HGO.out)
      have HPX := Lib.hid (Eq.refl (p L[j]))
      generalize L[j] = x at hcell HC HGO2 HPX
      obtain ⟨px, hpx⟩ : ∃ px, px = p x := ⟨_, rfl⟩
      rw [← hpx] at HC HGO2
      clear HPX hpx
      obtain ⟨nm, ty, sc, sg, rg, mb, lb⟩ := x
      have d0 : wr.cell? ⟨b, o + j * 7, none⟩ = some (.string (bsB nm)) := hcell 0 _ rfl
      have d1 : wr.cell? ⟨b, o + j * 7 + 1, none⟩ = some (.int .i64 ty) := hcell 1 _ rfl
      have d2 : wr.cell? ⟨b, o + j * 7 + 2, none⟩ = some (.int .i64 sc) := hcell 2 _ rfl
      have d3 : wr.cell? ⟨b, o + j * 7 + 3, none⟩ = some (.int .i64 sg) := hcell 3 _ rfl
      have d4 : wr.cell? ⟨b, o + j * 7 + 4, none⟩ = some (.bool rg) := hcell 4 _ rfl
      have d5 : wr.cell? ⟨b, o + j * 7 + 5, none⟩ = some (.int .i64 mb) := hcell 5 _ rfl
      have d6 : wr.cell? ⟨b, o + j * 7 + 6, none⟩ = some (.int .i64 lb) := hcell 6 _ rfl
      clear hcell
      go_wp2_with fail
      refine (HC.out _ HB.out).mono ?_
      rintro e w1 ⟨rfl, hb1⟩
      have HB1 := Lib.hid (ext_trans HB.out hb1)
      clear hb1
      cases px
      · have HGO3 := Lib.hid (show (L.drop (j + 1)).any p = L.any p by rw [← HGO2.out, Bool.false_or])
        go_wp2_with fail
        go_roundw
        case rel => exact ⟨j + 1, by omega, by go_num, HGO3.out, HB1.out⟩
        case measure => simp [intOf]; omega
      · have HR := Lib.hid (show true = L.any p by rw [← HGO2.out]; rfl)
        go_wp2_with fail
        go_ret
        exact ⟨⟨j, rfl, by rw [← HR.out]; simp, by omega⟩, HB1.out⟩
    · obtain rfl : j = L.length := by omega
      have HR := Lib.hid (show false = L.any p by rw [← HGO.out, List.drop_length]; rfl)
      go_wp2_with fail
      go_ret
      exact ⟨⟨-1, rfl, by rw [← HR.out]; rfl, by omega⟩, HB.out⟩
set_option maxHeartbeats 400000 in
theorem con_vty (pt : Nat) (p : Vr → Bool) (v : Value) (L : List (Vr)) (w : World) (hs : SlR w v L.length (vrs L))
    (hF : ∀ x ∈ L, ∀ W, Below w.heap.size w W → Calls Tryz.prog 213 #[vrV x, .pointer (some ⟨pt, 0, none⟩)] W fun e w' => e = .returned (.bool (p x)) ∧ Below W.heap.size W w') :
    Calls Tryz.prog 210 #[v, .func (.func 213) #[] #[.pointer (some ⟨pt, 0, none⟩)]] w fun e w' => e = .returned (.bool (L.any p)) ∧ Below w.heap.size w w' := by
  have HI := Lib.hid (ix_vty pt p v L w hs hF)
  generalize L.any p = r at HI ⊢
  obtain ⟨a, cap, rfl, hc, hm⟩ := hs.shape
  clear hs hF
  go_enter Tryz.func210, Tryz.ntmps210
  go_wp2_with fail
  refine HI.out.mono ?_
  rintro e w1 ⟨⟨i, rfl, hi, hi1⟩, hb⟩
  have HH := Lib.hid hi
  clear hi
  go_wp2_with fail
  go_ret
  exact ⟨ret_bool HH.out, hb⟩
set_option maxHeartbeats 400000 in
set_option maxRecDepth 100000 in
theorem ix_vrg (_pt : Nat) (p : Vr → Bool) (v : Value) (L : List (Vr)) (w : World) (hs : SlR w v L.length (vrs L))
    (hF : ∀ x ∈ L, ∀ W, Below w.heap.size w W → Calls Tryz.prog 207 #[vrV x] W fun e w' => e = .returned (.bool (p x)) ∧ Below W.heap.size W w') :
    Calls Tryz.prog 265 #[v, .func (.func 207) #[] #[]] w (IxP (L.any p) w) := by
  obtain ⟨a, cap, rfl, hc, hm⟩ := hs.shape
  unfold maxLen at hm
  have HS := Lib.hid hs
  have HF := Lib.hid hF
  clear hs hF
  go_enter Tryz.func265, Tryz.ntmps265
  go_wp2_with fail
  go_loopw [8] (fun i wr => ∃ j : Nat, j ≤ L.length ∧ i = .int .i64 j ∧ (L.drop j).any p = L.any p ∧ Below w.heap.size w wr) (fun i _ => L.length - (intOf i).toNat)
  case atStart => exact ⟨0, Nat.zero_le _, rfl, rfl, Below.refl _ _⟩
  case round =>
    obtain ⟨j, hj, rfl, hgo, hb⟩ := hrel
    have HGO := Lib.hid hgo
    have HB := Lib.hid hb
    clear hgo hb
    by_cases hlt : j < L.length
    · obtain ⟨b, o, rfl, hcell⟩ := (HS.out.below HB.out).vrs hlt
      have HC := Lib.hid (fun W hW => HF.out L[j] (List.getElem_mem hlt) W hW)
      have HGO2 := Lib.hid ((any_drop2 (p := p) hlt).symm.trans HGO.out)
      have HPX := Lib.hid (Eq.refl (p L[j]))
      generalize L[j] = x at hcell HC HGO2 HPX
      obtain ⟨px, hpx⟩ : ∃ px, px = p x := ⟨_, rfl⟩
      rw [← hpx] at HC HGO2
      clear HPX hpx
      obtain ⟨nm, ty, sc, sg, rg, mb, lb⟩ := x
      have d0 : wr.cell? ⟨b, o + j * 7, none⟩ = some (.string (bsB nm)) := hcell 0 _ rfl
      have d1 : wr.cell? ⟨b, o + j * 7 + 1, none⟩ = some (.int .i64 ty) := hcell 1 _ rfl
      have d2 : wr.cell? ⟨b, o + j * 7 + 2, none⟩ = some (.int .i64 sc) := hcell 2 _ rfl
      have d3 : wr.cell? ⟨b, o + j * 7 + 3, none⟩ = some (.int .i64 sg) := hcell 3 _ rfl
      have d4 : wr.cell? ⟨b, o + j * 7 + 4, none⟩ = some (.bool rg) := hcell 4 _ rfl
      have d5 : wr.cell? ⟨b, o + j * 7 + 5, none⟩ = some (.int .i64 mb) := hcell 5 _ rfl
      have d6 : wr.cell? ⟨b, o + j * 7 + 6, none⟩ = some (.int .i64 lb) := hcell 6 _ rfl
      clear hcell
      go_wp2_with fail
      refine (HC.out _ HB.out).mono ?_
      rintro e w1 ⟨rfl, hb1⟩
      have HB1 := Lib.hid (ext_trans HB.out hb1)
      clear hb1
      cases px
      · have HGO3 := Lib.hid (show (L.drop (j + 1)).any p = L.any p by rw [← HGO2.out, Bool.false_or])
        go_wp2_with fail
        go_roundw
        case rel => exact ⟨j + 1, by omega, by go_num, HGO3.out, HB1.out⟩
        case measure => simp [intOf]; omega
      · have HR := Lib.hid (show true = L.any p by rw [← HGO2.out]; rfl)
        go_wp2_with fail
        go_ret
        exact ⟨⟨j, rfl, by rw [← HR.out]; simp, by omega⟩, HB1.out⟩
    · obtain rfl : j = L.length := by omega
      have HR := Lib.hid (show false = L.any p by rw [← HGO.out, List.drop_length]; rfl)
      go_wp2_with fail
      go_ret
      exact ⟨⟨-1, rfl, by rw [← HR.out]; rfl, by omega⟩, HB.out⟩
set_option maxHeartbeats 400000 in
theorem con_vrg (_pt : Nat) (p : Vr → Bool) (v : Value) (L : List (Vr)) (w : World) (hs : SlR w v L.length (vrs L))
    (hF : ∀ x ∈ L, ∀ W, Below w.heap.size w W → Calls Tryz.prog 207 #[vrV x] W fun e w' => e = .returned (.bool (p x)) ∧ Below W.heap.size W w') :
    Calls Tryz.prog 210 #[v, .func (.func 207) #[] #[]] w fun e w' => e = .returned (.bool (L.any p)) ∧ Below w.heap.size w w' := by
  have HI := Lib.hid (ix_vrg _pt p v L w hs hF)
  generalize L.any p = r at HI ⊢
  obtain ⟨a, cap, rfl, hc, hm⟩ := hs.shape
  clear hs hF
  go_enter Tryz.func210, Tryz.ntmps210
  go_wp2_with fail
  refine HI.out.mono ?_
  rintro e w1 ⟨⟨i, rfl, hi, hi1⟩, hb⟩
  have HH := Lib.hid hi
  clear hi
  go_wp2_with fail
  go_ret
  exact ⟨ret_bool HH.out, hb⟩
set_option maxHeartbeats 400000 in
set_option maxRecDepth 100000 in
theorem ix_snm (pt : Nat) (p : Sc → Bool) (v : Value) (L : List (Sc)) (w : World) (hs : SlR w v L.length (scs L))
    (hF : ∀ x ∈ L, ∀ W, Below w.heap.size w W → Calls Tryz.prog 209 #[scV x, .pointer (some ⟨pt, 0, none⟩)] W fun e w' => e = .returned (.bool (p x)) ∧ Below W.heap.size W w') :
    Calls Tryz.prog 264 #[v, .func (.func 209) #[] #[.pointer (some ⟨pt, 0, none⟩)]] w (IxP (L.any p) w) := by
  obtain ⟨a, cap, rfl, hc, hm⟩ := hs.shape
  unfold maxLen at hm
  have HS := Lib.hid hs
  have HF := Lib.hid hF
  clear hs hF
  go_enter Tryz.func264, Tryz.ntmps264
  go_wp2_with fail
  go_loopw [8] (fun i wr => ∃ j : Nat, j ≤ L.length ∧ i = .int .i64 j ∧ (L.drop j).any p = L.any p ∧ Below w.heap.size w wr) (fun i _ => L.length - (intOf i).toNat)
  case atStart => exact ⟨0, Nat.zero_le _, rfl, rfl, Below.refl _ _⟩
  case round =>
    obtain ⟨j, hj, rfl, hgo, hb⟩ := hrel
    have HGO := Lib.hid hgo
    have HB := Lib.hid hb
    clear hgo hb
    by_cases hlt : j < L.length
    · obtain ⟨b, o, rfl, hcell⟩ := (HS.out.below HB.out).scs hlt
      have HC := Lib.hid (fun W hW => HF.out L[j] (List.getElem_mem hlt) W hW)
      have HGO2 := Lib.hid ((any_drop2 (p := p) hlt).symm.trans HGO.out)
      have HPX := Lib.hid (Eq.refl (p L[j]))
      generalize L[j] = x at hcell HC HGO2 HPX
      obtain ⟨px, hpx⟩ : ∃ px, px = p x := ⟨_, rfl⟩
      rw [← hpx] at HC HGO2
      clear HPX hpx
      obtain ⟨nm, ty, pa⟩ := x
      have d0 : wr.cell? ⟨b, o + j * 3, none⟩ = some (.string (bsB nm)) := hcell 0 _ rfl
      have d1 : wr.cell? ⟨b, o + j * 3 + 1, none⟩ = some (.int .i64 ty) := hcell 1 _ rfl
      have d2 : wr.cell? ⟨b, o + j * 3 + 2, none⟩ = some (.int .i64 pa) := hcell 2 _ rfl
      clear hcell
      go_wp2_with fail
      refine (HC.out _ HB.out).mono ?_
      rintro e w1 ⟨rfl, hb1⟩
      have HB1 := Lib.hid (ext_trans HB.out hb1)
      clear hb1
      cases px
      · have HGO3 := Lib.hid (show (L.drop (j + 1)).any p = L.any p by rw [← HGO2.out, Bool.false_or])
        go_wp2_with fail
        go_roundw
        case rel => exact ⟨j + 1, by omega, by go_num, HGO3.out, HB1.out⟩
        case measure => simp [intOf]; omega
      · have HR := Lib.hid (show true = L.any p by rw [← HGO2.out]; rfl)
        go_wp2_with fail
        go_ret
        exact ⟨⟨j, rfl, by rw [← HR.out]; simp, by omega⟩, HB1.out⟩
    · obtain rfl : j = L.length := by omega
      have HR := Lib.hid (show false = L.any p by rw [← HGO.out, List.drop_length]; rfl)
      go_wp2_with fail
      go_ret
      exact ⟨⟨-1, rfl, by rw [← HR.out]; rfl, by omega⟩, HB.out⟩
set_option maxHeartbeats 400000 in
theorem con_snm (pt : Nat) (p : Sc → Bool) (v : Value) (L : List (Sc)) (w : World) (hs : SlR w v L.length (scs L))
    (hF : ∀ x ∈ L, ∀ W, Below w.heap.size w W → Calls Tryz.prog 209 #[scV x, .pointer (some ⟨pt, 0, none⟩)] W fun e w' => e = .returned (.bool (p x)) ∧ Below W.heap.size W w') :
    Calls Tryz.prog 208 #[v, .func (.func 209) #[] #[.pointer (some ⟨pt, 0, none⟩)]] w fun e w' => e = .returned (.bool (L.any p)) ∧ Below w.heap.size w w' := by
  have HI := Lib.hid (ix_snm pt p v L w hs hF)
  generalize L.any p = r at HI ⊢
  obtain ⟨a, cap, rfl, hc, hm⟩ := hs.shape
  clear hs hF
  go_enter Tryz.func208, Tryz.ntmps208
  go_wp2_with fail
  refine HI.out.mono ?_
  rintro e w1 ⟨⟨i, rfl, hi, hi1⟩, hb⟩
  have HH := Lib.hid hi
  clear hi
  go_wp2_with fail
  go_ret
  exact ⟨ret_bool HH.out, hb⟩
set_option maxHeartbeats 400000 in
set_option maxRecDepth 100000 in
theorem ix_sty (pt : Nat) (p : Sc → Bool) (v : Value) (L : List (Sc)) (w : World) (hs : SlR w v L.length (scs L))
    (hF : ∀ x ∈ L, ∀ W, Below w.heap.size w W → Calls Tryz.prog 212 #[scV x, .pointer (some ⟨pt, 0, none⟩)] W fun e w' => e = .returned (.bool (p x)) ∧ Below W.heap.size W w') :
    Calls Tryz.prog 264 #[v, .func (.func 212) #[] #[.pointer (some ⟨pt, 0, none⟩)]] w (IxP (L.any p) w) := by
  obtain ⟨a, cap, rfl, hc, hm⟩ := hs.shape
  unfold maxLen at hm
  have HS := Lib.hid hs
  have HF := Lib.hid hF
  clear hs hF
  go_enter Tryz.func264, Tryz.ntmps264
  go_wp2_with fail
  go_loopw [8] (fun i wr => ∃ j : Nat, j ≤ L.length ∧ i = .int .i64 j ∧ (L.drop j).any p = L.any p ∧ Below w.heap.size w wr) (fun i _ => L.length - (intOf i).toNat)
  case atStart => exact ⟨0, Nat.zero_le _, rfl, rfl, Below.refl _ _⟩
  case round =>
    obtain ⟨j, hj, rfl, hgo, hb⟩ := hrel
    have HGO := Lib.hid hgo
    have HB := Lib.hid hb
    clear hgo hb
    by_cases hlt : j < L.length
    · obtain ⟨b, o, rfl, hcell⟩ := (HS.out.below HB.out).scs hlt
      have HC := Lib.hid (fun W hW => HF.out L[j] (List.getElem_mem hlt) W hW)
      have HGO2 := Lib.hid ((any_drop2 (p := p) hlt).symm.trans HGO.out)
      have HPX := Lib.hid (Eq.refl (p L[j]))
      generalize L[j] = x at hcell HC HGO2 HPX
      obtain ⟨px, hpx⟩ : ∃ px, px = p x := ⟨_, rfl⟩
      rw [← hpx] at HC HGO2
      clear HPX hpx
      obtain ⟨nm, ty, pa⟩ := x
      have d0 : wr.cell? ⟨b, o + j * 3, none⟩ = some (.string (bsB nm)) := hcell 0 _ rfl
      have d1 : wr.cell? ⟨b, o + j * 3 + 1, none⟩ = some (.int .i64 ty) := hcell 1 _ rfl
      have d2 : wr.cell? ⟨b, o + j * 3 + 2, none⟩ = some (.int .i64 pa) := hcell 2 _ rfl
      clear hcell
      go_wp2_with fail
      refine (HC.out _ HB.out).mono ?_
      rintro e w1 ⟨rfl, hb1⟩
      have HB1 := Lib.hid (ext_trans HB.out hb1)
      clear hb1
      cases px
      · have HGO3 := Lib.hid (show (L.drop (j + 1)).any p = L.any p by rw [← HGO2.out, Bool.false_or])
        go_wp2_with fail
        go_roundw
        case rel => exact ⟨j + 1, by omega, by go_num, HGO3.out, HB1.out⟩
        case measure => simp [intOf]; omega
      · have HR := Lib.hid (show true = L.any p by rw [← HGO2.out]; rfl)
        go_wp2_with fail
        go_ret
        exact ⟨⟨j, rfl, by rw [← HR.out]; simp, by omega⟩, HB1.out⟩
    · obtain rfl : j = L.length := by omega
      have HR := Lib.hid (show false = L.any p by rw [← HGO.out, List.drop_length]; rfl)
      go_wp2_with fail
      go_ret
      exact ⟨⟨-1, rfl, by rw [← HR.out]; rfl, by omega⟩, HB.out⟩
set_option maxHeartbeats 400000 in
theorem con_sty (pt : Nat) (p : Sc → Bool) (v : Value) (L : List (Sc)) (w : World) (hs : SlR w v L.length (scs L))
    (hF : ∀ x ∈ L, ∀ W, Below w.heap.size w W → Calls Tryz.prog 212 #[scV x, .pointer (some ⟨pt, 0, none⟩)] W fun e w' => e = .returned (.bool (p x)) ∧ Below W.heap.size W w') :
    Calls Tryz.prog 208 #[v, .func (.func 212) #[] #[.pointer (some ⟨pt, 0, none⟩)]] w fun e w' => e = .returned (.bool (L.any p)) ∧ Below w.heap.size w w' := by
  have HI := Lib.hid (ix_sty pt p v L w hs hF)
  generalize L.any p = r at HI ⊢
  obtain ⟨a, cap, rfl, hc, hm⟩ := hs.shape
  clear hs hF
  go_enter Tryz.func208, Tryz.ntmps208
  go_wp2_with fail
  refine HI.out.mono ?_
  rintro e w1 ⟨⟨i, rfl, hi, hi1⟩, hb⟩
  have HH := Lib.hid hi
  clear hi
  go_wp2_with fail
  go_ret
  exact ⟨ret_bool HH.out, hb⟩
set_option maxHeartbeats 400000 in
set_option maxRecDepth 100000 in
theorem ix_gof (pt : Nat) (p : Int × Int → Bool) (v : Value) (L : List (Int × Int)) (w : World) (hs : SlR w v L.length (gps L))
    (hF : ∀ x ∈ L, ∀ W, Below w.heap.size w W → Calls Tryz.prog 81 #[gpV x, .pointer (some ⟨pt, 0, none⟩)] W fun e w' => e = .returned (.bool (p x)) ∧ Below W.heap.size W w') :
    Calls Tryz.prog 141 #[v, .func (.func 81) #[] #[.pointer (some ⟨pt, 0, none⟩)]] w (IxP (L.any p) w) := by
  obtain ⟨a, cap, rfl, hc, hm⟩ := hs.shape
  unfold maxLen at hm
  have HS := Lib.hid hs
  have HF := Lib.hid hF
  clear hs hF
  go_enter Tryz.func141, Tryz.ntmps141
  go_wp2_with fail
  go_loopw [8] (fun i wr => ∃ j : Nat, j ≤ L.length ∧ i = .int .i64 j ∧ (L.drop j).any p = L.any p ∧ Below w.heap.size w wr) (fun i _ => L.length - (intOf i).toNat)
  case atStart => exact ⟨0, Nat.zero_le _, rfl, rfl, Below.refl _ _⟩
  case round =>
    obtain ⟨j, hj, rfl, hgo, hb⟩ := hrel
    have HGO := Lib.hid hgo
    have HB := Lib.hid hb
    clear hgo hb
    by_cases hlt : j < L.length
    · obtain ⟨b, o, rfl, hcell⟩ := (HS.out.below HB.out).gps hlt
      have HC := Lib.hid (fun W hW => HF.out L[j] (List.getElem_mem hlt) W hW)
      have HGO2 := Lib.hid ((any_drop2 (p := p) hlt).symm.trans HGO.out)
      have HPX := Lib.hid (Eq.refl (p L[j]))
      generalize L[j] = x at hcell HC HGO2 HPX
      obtain ⟨px, hpx⟩ : ∃ px, px = p x := ⟨_, rfl⟩
      rw [← hpx] at HC HGO2
      clear HPX hpx
      obtain ⟨ga, gb⟩ := x
      have d0 : wr.cell? ⟨b, o + j * 2, none⟩ = some (.int .i64 ga) := hcell 0 _ rfl
      have d1 : wr.cell? ⟨b, o + j * 2 + 1, none⟩ = some (.int .i64 gb) := hcell 1 _ rfl
      clear hcell
      go_wp2_with fail
      refine (HC.out _ HB.out).mono ?_
      rintro e w1 ⟨rfl, hb1⟩
      have HB1 := Lib.hid (ext_trans HB.out hb1)
      clear hb1
      cases px
      · have HGO3 := Lib.hid (show (L.drop (j + 1)).any p = L.any p by rw [← HGO2.out, Bool.false_or])
        go_wp2_with fail
        go_roundw
        case rel => exact ⟨j + 1, by omega, by go_num, HGO3.out, HB1.out⟩
        case measure => simp [intOf]; omega
      · have HR := Lib.hid (show true = L.any p by rw [← HGO2.out]; rfl)
        go_wp2_with fail
        go_ret
        exact ⟨⟨j, rfl, by rw [← HR.out]; simp, by omega⟩, HB1.out⟩
    · obtain rfl : j = L.length := by omega
      have HR := Lib.hid (show false = L.any p by rw [← HGO.out, List.drop_length]; rfl)
      go_wp2_with fail
      go_ret
      exact ⟨⟨-1, rfl, by rw [← HR.out]; rfl, by omega⟩, HB.out⟩
set_option maxHeartbeats 400000 in
theorem con_gof (pt : Nat) (p : Int × Int → Bool) (v : Value) (L : List (Int × Int)) (w : World) (hs : SlR w v L.length (gps L))
    (hF : ∀ x ∈ L, ∀ W, Below w.heap.size w W → Calls Tryz.prog 81 #[gpV x, .pointer (some ⟨pt, 0, none⟩)] W fun e w' => e = .returned (.bool (p x)) ∧ Below W.heap.size W w') :
    Calls Tryz.prog 80 #[v, .func (.func 81) #[] #[.pointer (some ⟨pt, 0, none⟩)]] w fun e w' => e = .returned (.bool (L.any p)) ∧ Below w.heap.size w w' := by
  have HI := Lib.hid (ix_gof pt p v L w hs hF)
  generalize L.any p = r at HI ⊢
  obtain ⟨a, cap, rfl, hc, hm⟩ := hs.shape
  clear hs hF
  go_enter Tryz.func80, Tryz.ntmps80
  go_wp2_with fail
  refine HI.out.mono ?_
  rintro e w1 ⟨⟨i, rfl, hi, hi1⟩, hb⟩
  have HH := Lib.hid hi
  clear hi
  go_wp2_with fail
  go_ret
  exact ⟨ret_bool HH.out, hb⟩
end Go.Proofs.YtbiadennhnokhaaGreatDoor
/- The bytes of a text are printable. -/
namespace Go.Proofs.YtbiadennhnokhaaGreatDoor
open Go.RowKit
set_option linter.unusedSimpArgs false

/-! quote -/
theorem prn_high {c : UInt8} (h : 128 ≤ c.toNat) : prn c = false := by
  unfold prn
  rw [Bool.and_eq_false_iff, decide_eq_false_iff_not, decide_eq_false_iff_not]
  exact .inr (by omega)
theorem all_takeP {p : UInt8 → Bool} {s : ByteArray} {pos : Nat} (h : pos < s.size) : (s.data.toList.take (pos + 1)).all p = ((s.data.toList.take pos).all p && p (s[pos]'h)) := by
  rw [List.take_succ_eq_append_getElem (by simpa using h), List.all_append]
  simp
  rfl
theorem all_notP {p : UInt8 → Bool} {s : ByteArray} {pos : Nat} (h : pos < s.size) (hd : p (s[pos]'h) = false) : s.data.toList.all p = false := by
  rw [List.all_eq_false]
  exact ⟨s[pos], by
    have : s[pos] = s.data.toList[pos]'(by simpa using h) := by simp; rfl
    rw [this]; exact List.getElem_mem _, by rw [hd]; simp⟩
set_option maxHeartbeats 800000 in
set_option maxRecDepth 100000 in
theorem quo_printable (s : ByteArray) (w : World) : Calls Tryz.prog 285 #[.string s] w fun e w' => e = .returned (.bool (s.data.toList.all prn)) ∧ Below w.heap.size w w' := by
  go_enter Tryz.func285, Tryz.ntmps285
  go_wp2_with fail
  go_loopw [2] (fun r_ w' => ∃ pos : Nat, pos ≤ s.size ∧ r_ = .bool false ∧ (s.data.toList.take pos).all prn = true ∧ w' = w.iter s pos) (fun _ w' => s.size - w'.iterPos w.heap.size)
  case atStart => exact ⟨0, by omega, rfl, rfl, rfl⟩
  case round =>
    obtain ⟨pos, hps, rfl, hall, rfl⟩ := hrel
    have HA := Lib.hid hall
    clear hall
    by_cases hp : pos < s.size
    · have hnx : ∀ ty, (Instr.next (.pointer (some ⟨w.heap.size, 0, none⟩)) true ty).run Tryz.prog (w.iter s pos) = _ := fun ty => run_next_any w s pos ty hp
      have HT := Lib.hid (all_takeP (p := prn) hp)
      have HN := Lib.hid (fun h => all_notP (p := prn) hp h)
      by_cases ha : (s[pos]'hp).toNat < 128
      · rw [show Utf8.decode s pos = ((s[pos]'hp).toNat, 1) from decode_ascii s pos hp ha] at hnx
        generalize s[pos]'hp = c at ha hnx HT HN
        dsimp only at hnx
        by_cases c1 : c.toNat < 33
        · have HR := Lib.hid (HN.out (by unfold prn; rw [decide_eq_false (show ¬ 33 ≤ c.toNat by omega)]; rfl))
          have hb1 : decide ((c.toNat : Int) < 33) = true := by rw [decide_eq_true_iff]; omega
          go_wp2_with fail
          go_ret
          exact ⟨ret_bool (HR.out).symm, (Below.refl _ _).alloc (Nat.le_refl _) _⟩
        · have hb1 : decide ((c.toNat : Int) < 33) = false := by rw [decide_eq_false_iff_not]; omega
          by_cases c2 : 126 < c.toNat
          · have HR := Lib.hid (HN.out (by unfold prn; rw [decide_eq_false (show ¬ c.toNat ≤ 126 by omega), Bool.and_false]))
            have hb2 : decide ((126 : Int) < (c.toNat : Int)) = true := by rw [decide_eq_true_iff]; omega
            go_wp2_with fail
            go_ret
            exact ⟨ret_bool (HR.out).symm, (Below.refl _ _).alloc (Nat.le_refl _) _⟩
          · have hb2 : decide ((126 : Int) < (c.toNat : Int)) = false := by rw [decide_eq_false_iff_not]; omega
            have HA2 := Lib.hid (show (s.data.toList.take (pos + 1)).all prn = true by
              rw [HT.out, HA.out]
              unfold prn
              rw [decide_eq_true (show 33 ≤ c.toNat by omega), decide_eq_true (show c.toNat ≤ 126 by omega)]
              rfl)
            go_wp2_with fail
            go_roundw
            case rel => exact ⟨pos + 1, by omega, rfl, HA2.out, rfl⟩
            case measure => simp; omega
      · have HR := Lib.hid (HN.out (prn_high (by omega)))
        have hd := (decode_high s pos hp (by omega)).1
        have hb1 : decide (((Utf8.decode s pos).1 : Int) < 33) = false := by rw [decide_eq_false_iff_not]; omega
        have hb2 : decide ((126 : Int) < ((Utf8.decode s pos).1 : Int)) = true := by rw [decide_eq_true_iff]; omega
        clear hd
        go_wp2_with fail
        go_ret
        exact ⟨ret_bool (HR.out).symm, (Below.refl _ _).alloc (Nat.le_refl _) _⟩
    · obtain rfl : pos = s.size := by omega
      have hnx : ∀ ty, (Instr.next (.pointer (some ⟨w.heap.size, 0, none⟩)) true ty).run Tryz.prog (w.iter s s.size) = _ := fun ty => run_next_end w s s.size ty hp
      have HR := Lib.hid (show s.data.toList.all prn = true by
        have := HA.out
        rwa [List.take_of_length_le (by simp)] at this)
      go_wp2_with fail
      go_ret
      exact ⟨ret_bool (HR.out).symm, (Below.refl _ _).alloc (Nat.le_refl _) _⟩
end Go.Proofs.YtbiadennhnokhaaGreatDoor
/- The small checks: bit ranges, printable names, scales. -/
namespace Go.Proofs.YtbiadennhnokhaaGreatDoor
open Go.RowKit
set_option linter.unusedSimpArgs false

theorem ret_num {k : IntKind} {a b : Int} (h : a = b) : Ending.returned (.int k a) = .returned (.int k b) := by rw [h]
theorem nm_bound (n : Int) (w : World) : Calls Tryz.prog 168 #[.int .i64 n] w fun e w' => e = .returned (.bool (bndOk n)) ∧ w = w' := by
  have HR := Lib.hid (show (decide (-32768 ≤ n) && decide (n ≤ 32768)) = bndOk n from rfl)
  by_cases h1 : -32768 ≤ n
  · have b1 : decide (-32768 ≤ n) = true := by simpa using h1
    by_cases h2 : n ≤ 32768
    · have b2 : decide (n ≤ 32768) = true := by simpa using h2
      rw [b1, b2] at HR
      go_enter Tryz.func168, Tryz.ntmps168
      go_wp2_with fail
      go_ret
      exact ⟨ret_bool HR.out, rfl⟩
    · have b2 : decide (n ≤ 32768) = false := by simpa using h2
      rw [b1, b2] at HR
      go_enter Tryz.func168, Tryz.ntmps168
      go_wp2_with fail
      go_ret
      exact ⟨ret_bool HR.out, rfl⟩
  · have b1 : decide (-32768 ≤ n) = false := by simpa using h1
    rw [b1] at HR
    go_enter Tryz.func168, Tryz.ntmps168
    go_wp2_with fail
    go_ret
    exact ⟨ret_bool HR.out, rfl⟩

theorem nm_Width (m l : Int) (w : World) : Calls Tryz.prog 122 #[.int .i64 m, .int .i64 l] w fun e w' => e = .returned (.int .i64 (widthF m l)) ∧ w = w' := by
  have H1 := Lib.hid (nm_bound m w)
  have H2 := Lib.hid (nm_bound l w)
  cases h1 : bndOk m
  · rw [h1] at H1
    have HR := Lib.hid (show (0 : Int) = widthF m l by unfold widthF; rw [h1]; rfl)
    clear h1
    go_enter Tryz.func122, Tryz.ntmps122
    go_wp2_with fail
    refine H1.out.mono ?_
    rintro e w1 ⟨rfl, rfl⟩
    go_wp2_with fail
    go_ret
    exact ⟨ret_num HR.out, rfl⟩
  · rw [h1] at H1
    cases h2 : bndOk l
    · rw [h2] at H2
      have HR := Lib.hid (show (0 : Int) = widthF m l by unfold widthF; rw [h2, Bool.and_false]; rfl)
      clear h1 h2
      go_enter Tryz.func122, Tryz.ntmps122
      go_wp2_with fail
      refine H1.out.mono ?_
      rintro e w1 ⟨rfl, rfl⟩
      go_wp2_with fail
      refine H2.out.mono ?_
      rintro e w1 ⟨rfl, rfl⟩
      go_wp2_with fail
      go_ret
      exact ⟨ret_num HR.out, rfl⟩
    · rw [h2] at H2
      have HR := Lib.hid (show max m l - min m l + 1 = widthF m l by unfold widthF; rw [h1, h2]; rfl)
      have hb : -32768 ≤ m ∧ m ≤ 32768 ∧ -32768 ≤ l ∧ l ≤ 32768 := by
        unfold bndOk at h1 h2
        simp only [Bool.and_eq_true, decide_eq_true_iff] at h1 h2
        omega
      obtain ⟨q1, q2, q3, q4⟩ := hb
      clear h1 h2
      rcases Int.lt_trichotomy m l with hml | rfl | hml
      all_goals
        go_enter Tryz.func122, Tryz.ntmps122
        go_wp2_with fail
        refine H1.out.mono ?_
        rintro e w1 ⟨rfl, rfl⟩
        go_wp2_with fail
        refine H2.out.mono ?_
        rintro e w1 ⟨rfl, rfl⟩
        go_wp2_with fail
        go_ret
        exact ⟨ret_num (by have := HR.out; omega), rfl⟩

theorem ts_Valid (n : Int) (w : World) : Calls Tryz.prog 119 #[.int .i64 n] w fun e w' => e = .returned (.bool (decide (-15 ≤ n) && decide (n ≤ 2))) ∧ w = w' := by
  by_cases h1 : -15 ≤ n
  · have b1 : decide (-15 ≤ n) = true := by simpa using h1
    by_cases h2 : n ≤ 2
    · have b2 : decide (n ≤ 2) = true := by simpa using h2
      go_enter Tryz.func119, Tryz.ntmps119
      go_wp2_with fail
      go_ret
      exact ⟨by simp [b1, b2], rfl⟩
    · have b2 : decide (n ≤ 2) = false := by simpa using h2
      go_enter Tryz.func119, Tryz.ntmps119
      go_wp2_with fail
      go_ret
      exact ⟨by simp [b1, b2], rfl⟩
  · have b1 : decide (-15 ≤ n) = false := by simpa using h1
    go_enter Tryz.func119, Tryz.ntmps119
    go_wp2_with fail
    go_ret
    exact ⟨by simp [b1], rfl⟩

set_option maxHeartbeats 800000 in
theorem nm_printable (s : ByteArray) (w : World) (hm : s.size ≤ 140737488351232) : Calls Tryz.prog 262 #[.string s] w fun e w' => e = .returned (.bool (s.data.toList.all prn)) ∧ w = w' := by
  obtain ⟨R, hR⟩ : ∃ R, R = s.data.toList.all prn := ⟨_, rfl⟩
  rw [← hR]
  have HRR := Lib.hid hR
  clear hR
  go_enter Tryz.func262, Tryz.ntmps262
  go_wp2_with fail
  go_loop [6] (fun i => ∃ k : Nat, k ≤ s.size ∧ i = .int .i64 k ∧ (s.data.toList.take k).all prn = true) (fun i => s.size - (intOf i).toNat)
  case atStart => exact ⟨0, Nat.zero_le _, rfl, rfl⟩
  case round =>
    obtain ⟨k, hk, rfl, hall⟩ := hrel
    have HA := Lib.hid hall
    clear hall
    by_cases hlt : k < s.size
    · have hlt2 : (k : Int) < (s.size : Int) := by omega
      have HT := Lib.hid (all_takeP (p := prn) hlt)
      have HN := Lib.hid (fun h => all_notP (p := prn) hlt h)
      by_cases hp : 33 ≤ (s[k]'hlt).toNat ∧ (s[k]'hlt).toNat ≤ 126
      · have hb1 : decide (((s[k]'hlt).toNat : Int) < 33) = false := by rw [decide_eq_false_iff_not]; omega
        have hb2 : decide ((126 : Int) < ((s[k]'hlt).toNat : Int)) = false := by rw [decide_eq_false_iff_not]; omega
        have HA2 := Lib.hid (show (s.data.toList.take (k + 1)).all prn = true by
          rw [HT.out, HA.out]
          unfold prn
          rw [decide_eq_true hp.1, decide_eq_true hp.2]
          rfl)
        clear hp
        go_wp2_with fail
        go_round
        case rel => exact ⟨k + 1, by omega, by go_num, HA2.out⟩
        case measure => simp [intOf]; omega
      · have HR := Lib.hid (show s.data.toList.all prn = false from HN.out (by
          unfold prn
          rw [Bool.and_eq_false_iff, decide_eq_false_iff_not, decide_eq_false_iff_not]
          omega))
        by_cases h1 : (s[k]'hlt).toNat < 33
        · have hb1 : decide (((s[k]'hlt).toNat : Int) < 33) = true := by rw [decide_eq_true_iff]; omega
          go_wp2_with fail
          go_ret
          exact ⟨ret_bool (HRR.out.trans HR.out).symm, rfl⟩
        · have hb1 : decide (((s[k]'hlt).toNat : Int) < 33) = false := by rw [decide_eq_false_iff_not]; omega
          have hb2 : decide ((126 : Int) < ((s[k]'hlt).toNat : Int)) = true := by rw [decide_eq_true_iff]; omega
          go_wp2_with fail
          go_ret
          exact ⟨ret_bool (HRR.out.trans HR.out).symm, rfl⟩
    · obtain rfl : k = s.size := by omega
      have HR := Lib.hid (show s.data.toList.all prn = true by
        have := HA.out
        rwa [List.take_of_length_le (by simp)] at this)
      go_wp2_with fail
      go_ret
      exact ⟨ret_bool (HRR.out.trans HR.out).symm, rfl⟩
end Go.Proofs.YtbiadennhnokhaaGreatDoor
