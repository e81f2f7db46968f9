/- A cloned trace that is changed: all its rows, and the boxes beside them. -/
import Derived.Test.YtbiadennhnokhaaGreatDoorZCx
import Derived.Test.YtbiadennhnokhaaGreatDoorZSpo
namespace Go.Proofs.YtbiadennhnokhaaGreatDoor
open Go.RowKit
set_option linter.unusedSimpArgs false

/-- the first i elements are turned by f -/
def modN {α : Type} (f : α → α) (i : Nat) (l : List α) : List α := (l.take i).map f ++ l.drop i
theorem modN_zero {α : Type} (f : α → α) (l : List α) : modN f 0 l = l := by simp [modN]
theorem modN_len {α : Type} (f : α → α) (i : Nat) (l : List α) : (modN f i l).length = l.length := by
  unfold modN
  rw [List.length_append, List.length_map, List.length_take, List.length_drop]
  omega
theorem modN_all {α : Type} (f : α → α) (l : List α) : modN f l.length l = l.map f := by simp [modN]
theorem modN_at {α : Type} (f : α → α) {i : Nat} {l : List α} (hi : i < l.length) (h : i < (modN f i l).length) : (modN f i l)[i] = l[i] := by
  have e : (modN f i l)[i]? = l[i]? := by
    unfold modN
    rw [List.getElem?_append_right (by simp; omega)]
    simp [List.getElem?_drop, Nat.min_eq_left (Nat.le_of_lt hi)]
  rw [List.getElem?_eq_getElem h, List.getElem?_eq_getElem hi] at e
  exact Option.some.inj e
theorem modN_step {α : Type} (f : α → α) : ∀ {i : Nat} {l : List α}, i < l.length → (modN f i l).modify i f = modN f (i + 1) l
  | 0, x :: l, _ => by simp [modN]
  | i + 1, x :: l, h => by
    have := modN_step f (i := i) (l := l) (by simpa using h)
    simp only [modN, List.take_succ_cons, List.map_cons, List.drop_succ_cons, List.cons_append, List.modify_succ_cons] at this ⊢
    rw [this]
theorem modify_same {α : Type} {f g : α → α} : ∀ {i : Nat} {l : List α}, (∀ hi : i < l.length, g l[i] = f l[i]) → l.modify i g = l.modify i f
  | _, [], _ => by simp
  | 0, x :: l, h => by
    have : g x = f x := h (by simp)
    simp [this]
  | i + 1, x :: l, h => by
    rw [List.modify_succ_cons, List.modify_succ_cons, modify_same (i := i) (l := l) (fun hi => h (by simpa using hi))]
theorem wrap_up (k : Int) : IntKind.i64.wrap (k + 1) ≠ k := by
  unfold IntKind.wrap
  simp only [IntKind.bits, IntKind.signed, Bool.true_and, decide_eq_true_eq, ge_iff_le]
  split <;> omega
def kUp (k : Int) : Int := IntKind.i64.wrap (k + 1)
def sUp (s : Sc) : Sc := (s.1 ++ [120], s.2)
def vUp (v : Vr) : Vr := { v with nm := v.nm ++ [120] }
def gUp (g : Gp) : Gp := (g.1, IntKind.i64.wrap (g.2 + 1))
theorem bsB_x (b : Bs) : bsB b ++ ⟨#[120]⟩ = bsB (b ++ [120]) := by
  apply ByteArray.ext
  simp [bsB]
/-- a trace in rows of the call's own below a bound -/
structure TC (B D : Nat) (W : World) (t : Tr) (p : TP) : Prop where
  o : TrO B W t p
  ds : OwnG p.vs D
  dv : OwnG p.vv D
  dg : OwnG p.vg D
  dq : OwnG p.vp D
  dc : ∀ x ∈ p.M, OwnG x.2 D
theorem TC.of {B : Nat} {W : World} {t : Tr} {p : TP} (h : TrO B W t p) : TC B W.heap.size W t p :=
  ⟨h, fun _ hg => (own_lo h.s hg).2, fun _ hg => (own_lo h.v hg).2, fun _ hg => (own_lo h.g hg).2, fun _ hg => (own_lo h.q hg).2, fun x hx _ hg => (own_lo (h.c x hx) hg).2⟩
theorem TrO.step {B : Nat} {W W' : World} {t : Tr} {p : TP} (h : TrO B W t p) (hb : Below W.heap.size W W') : TrO B W' t p :=
  ⟨below_own h.s hb, below_own h.v hb, below_own h.g hb, fun x hx => below_own (h.c x hx) hb, below_own h.q hb, h.m⟩
theorem TrO.lower {B B' : Nat} {W : World} {t : Tr} {p : TP} (h : TrO B W t p) (hb : B' ≤ B) : TrO B' W t p :=
  ⟨ownsRow_base h.s hb, ownsRow_base h.v hb, ownsRow_base h.g hb, fun x hx => ownsRow_base (h.c x hx) hb, ownsRow_base h.q hb, h.m⟩
theorem TC.step {B D : Nat} {W W' : World} {t : Tr} {p : TP} (h : TC B D W t p) (hb : Below W.heap.size W W') : TC B D W' t p := ⟨h.o.step hb, h.ds, h.dv, h.dg, h.dq, h.dc⟩
theorem TC.box {B D : Nat} {W : World} {t : Tr} {p : TP} (h : TC B D W t p) {b : Nat} (hb : TBox W b) (j : Nat) (u : Value) : TC B D (W.setCell ⟨b, j, none⟩ u) t p := ⟨h.o.box hb j u, h.ds, h.dv, h.dg, h.dq, h.dc⟩
theorem TC.nine {B D : Nat} {W : World} {t : Tr} {p : TP} (h : TC B D W t p) {b : Nat} (hb : TBox W b) (u0 u1 u2 u3 u4 u5 u6 u7 u8 : Value) : TC B D (set9 W b u0 u1 u2 u3 u4 u5 u6 u7 u8) t p :=
  ((((((((h.box hb 0 u0).box (hb.set _ _ _) 1 u1).box ((hb.set _ _ _).set _ _ _) 2 u2).box (((hb.set _ _ _).set _ _ _).set _ _ _) 3 u3).box ((((hb.set _ _ _).set _ _ _).set _ _ _).set _ _ _) 4 u4).box (((((hb.set _ _ _).set _ _ _).set _ _ _).set _ _ _).set _ _ _) 5 u5).box ((((((hb.set _ _ _).set _ _ _).set _ _ _).set _ _ _).set _ _ _).set _ _ _) 6 u6).box (((((((hb.set _ _ _).set _ _ _).set _ _ _).set _ _ _).set _ _ _).set _ _ _).set _ _ _) 7 u7).box ((((((((hb.set _ _ _).set _ _ _).set _ _ _).set _ _ _).set _ _ _).set _ _ _).set _ _ _).set _ _ _) 8 u8
theorem TC.cg {B D : Nat} {W : World} {t : Tr} {p : TP} (h : TC B D W t p) : CG B D p.vg W p.M := ⟨h.o.g, h.o.c, h.dg, h.dc⟩
theorem TC.time {B D : Nat} {W : World} {u : Tr} {q : TP} (h : TC B D W u q) {x : Sg × Value} (hx : x ∈ q.M) {g : Nat} (hg : x.2.ownBlock = some g) (k : Nat) (y : Int) :
    TC B D (W.setCell ⟨g, k * 2, none⟩ (.int .i64 y)) { u with G := (q.M.map (updT g k y)).map Prod.fst } { q with M := q.M.map (updT g k y) } := by
  have hc := h.cg.time hx hg k y
  exact ⟨⟨ownsRow_setCell_other (a := ⟨g, k * 2, none⟩) h.o.s (own_ne h.o.s (h.o.c x hx) (by decide) hg) _, ownsRow_setCell_other (a := ⟨g, k * 2, none⟩) h.o.v (own_ne h.o.v (h.o.c x hx) (by decide) hg) _, hc.g, hc.c,
    ownsRow_setCell_other (a := ⟨g, k * 2, none⟩) h.o.q (own_ne h.o.q (h.o.c x hx) (by decide) hg) _, rfl⟩, h.ds, h.dv, h.dg, h.dq, hc.dc⟩
theorem TC.kind {B D : Nat} {W : World} {u : Tr} {q : TP} (h : TC B D W u q) {g : Nat} (hg : q.vg.ownBlock = some g) (i : Nat) (y : Int) :
    TC B D (W.setCell ⟨g, i * 3, none⟩ (.int .i64 y)) { u with G := (q.M.modify i fun x => ((y, x.1.2), x.2)).map Prod.fst } { q with M := q.M.modify i fun x => ((y, x.1.2), x.2) } := by
  have hc := h.cg.kind hg i y
  exact ⟨⟨ownsRow_setCell_other (a := ⟨g, i * 3, none⟩) h.o.s (own_ne h.o.s h.o.g (by decide) hg) _, ownsRow_setCell_other (a := ⟨g, i * 3, none⟩) h.o.v (own_ne h.o.v h.o.g (by decide) hg) _, hc.g, hc.c,
    ownsRow_setCell_other (a := ⟨g, i * 3, none⟩) h.o.q (own_ne h.o.q h.o.g (by decide) hg) _, rfl⟩, h.ds, h.dv, h.dg, h.dq, hc.dc⟩
theorem TC.scope {B D : Nat} {W : World} {u : Tr} {q : TP} (h : TC B D W u q) {g : Nat} (hg : q.vs.ownBlock = some g) (i : Nat) (b : Bs) :
    TC B D (W.setCell ⟨g, i * 3, none⟩ (.string (bsB b))) { u with S := u.S.modify i fun x => (b, x.2) } q := by
  have h1 := own_any h.o.s g (i * 3) (.string (bsB b))
  rw [if_pos hg, scs_mod] at h1
  exact ⟨⟨by simpa using h1, ownsRow_setCell_other (a := ⟨g, i * 3, none⟩) h.o.v (own_ne h.o.v h.o.s (by decide) hg) _, ownsRow_setCell_other (a := ⟨g, i * 3, none⟩) h.o.g (own_ne h.o.g h.o.s (by decide) hg) _,
    fun x hx => ownsRow_setCell_other (a := ⟨g, i * 3, none⟩) (h.o.c x hx) (own_ne (h.o.c x hx) h.o.s (by decide) hg) _,
    ownsRow_setCell_other (a := ⟨g, i * 3, none⟩) h.o.q (own_ne h.o.q h.o.s (by decide) hg) _, h.o.m⟩, h.ds, h.dv, h.dg, h.dq, h.dc⟩
theorem TC.var {B D : Nat} {W : World} {u : Tr} {q : TP} (h : TC B D W u q) {g : Nat} (hg : q.vv.ownBlock = some g) (i : Nat) (b : Bs) :
    TC B D (W.setCell ⟨g, i * 7, none⟩ (.string (bsB b))) { u with V := u.V.modify i fun x => { x with nm := b } } q := by
  have h1 := own_any h.o.v g (i * 7) (.string (bsB b))
  rw [if_pos hg, vrs_mod] at h1
  exact ⟨⟨ownsRow_setCell_other (a := ⟨g, i * 7, none⟩) h.o.s (own_ne h.o.s h.o.v (by decide) hg) _, by simpa using h1, ownsRow_setCell_other (a := ⟨g, i * 7, none⟩) h.o.g (own_ne h.o.g h.o.v (by decide) hg) _,
    fun x hx => ownsRow_setCell_other (a := ⟨g, i * 7, none⟩) (h.o.c x hx) (own_ne (h.o.c x hx) h.o.v (by decide) hg) _,
    ownsRow_setCell_other (a := ⟨g, i * 7, none⟩) h.o.q (own_ne h.o.q h.o.v (by decide) hg) _, h.o.m⟩, h.ds, h.dv, h.dg, h.dq, h.dc⟩
theorem TC.gap {B D : Nat} {W : World} {u : Tr} {q : TP} (h : TC B D W u q) {g : Nat} (hg : q.vp.ownBlock = some g) (i : Nat) (y : Int) :
    TC B D (W.setCell ⟨g, i * 2 + 1, none⟩ (.int .i64 y)) { u with P := u.P.modify i fun x => (x.1, y) } q := by
  have h1 := own_any h.o.q g (i * 2 + 1) (.int .i64 y)
  rw [if_pos hg, gps_mod] at h1
  exact ⟨⟨ownsRow_setCell_other (a := ⟨g, i * 2 + 1, none⟩) h.o.s (own_ne h.o.s h.o.q (by decide) hg) _, ownsRow_setCell_other (a := ⟨g, i * 2 + 1, none⟩) h.o.v (own_ne h.o.v h.o.q (by decide) hg) _, ownsRow_setCell_other (a := ⟨g, i * 2 + 1, none⟩) h.o.g (own_ne h.o.g h.o.q (by decide) hg) _,
    fun x hx => ownsRow_setCell_other (a := ⟨g, i * 2 + 1, none⟩) (h.o.c x hx) (own_ne (h.o.c x hx) h.o.q (by decide) hg) _,
    by simpa using h1, h.o.m⟩, h.ds, h.dv, h.dg, h.dq, h.dc⟩
theorem TrO.nineT {B : Nat} {W : World} {t : Tr} {q : TP} (h : TrO B W t q) {b : Nat} (hb : TBox W b) (u0 u1 u2 u3 u4 u5 u6 u7 u8 : Value) : TrO B (set9 W b u0 u1 u2 u3 u4 u5 u6 u7 u8) t q := ((TC.of h).nine hb _ _ _ _ _ _ _ _ _).o
theorem TBox.nine9 {W : World} {c : Nat} (h : TBox W c) (b : Nat) (u0 u1 u2 u3 u4 u5 u6 u7 u8 : Value) : TBox (set9 W b u0 u1 u2 u3 u4 u5 u6 u7 u8) c :=
  ((((((((h.set _ _ _).set _ _ _).set _ _ _).set _ _ _).set _ _ _).set _ _ _).set _ _ _).set _ _ _).set _ _ _
/-- the clone, the other clone, and the three boxes -/
structure CL (B D b1 g3 g4 : Nat) (C1 C3 C4 : Array Value) (w W : World) (t : Tr) (d : TP) (u : Tr) (q : TP) : Prop where
  c : TC B D W u q
  o : Oth B D b1 g3 g4 C1 C3 C4 w W d t
  t3 : TBox W g3
  t4 : TBox W g4
  lo : b1 < B
  l3 : B ≤ g3
  l4 : B ≤ g4
  ne : g3 ≠ g4
section
variable {B D b1 g3 g4 : Nat} {C1 C3 C4 : Array Value} {w W : World} {t u u' : Tr} {d q q' : TP}
theorem CL.step (h : CL B D b1 g3 g4 C1 C3 C4 w W t d u q) {W' : World} (hb : Below W.heap.size W W') (hw : B ≤ W.heap.size) : CL B D b1 g3 g4 C1 C3 C4 w W' t d u q :=
  ⟨h.c.step hb, ⟨h.o.x.step hb, h.o.y.step hb, h.o.z.step hb, h.o.d.step hb, h.o.b.trans (hb.mono hw)⟩, h.t3.below hb, h.t4.below hb, h.lo, h.l3, h.l4, h.ne⟩
theorem CL.put (h : CL B D b1 g3 g4 C1 C3 C4 w W t d u q) {g j : Nat} {y : Value} (hc : TC B D (W.setCell ⟨g, j, none⟩ y) u' q') {e size n : Nat} {v : Value} {xs : List Value} (ho : W.ownsRow B e size v n xs) (hg : v.ownBlock = some g) (hT : 27 ≠ e) (hD : OwnG v D) :
    CL B D b1 g3 g4 C1 C3 C4 w (W.setCell ⟨g, j, none⟩ y) t d u' q' := by
  have hl := own_lo ho hg
  have h3 : g ≠ g3 := fun e => h.t3.ne ho hT (e ▸ hg)
  have h4 : g ≠ g4 := fun e => h.t4.ne ho hT (e ▸ hg)
  exact ⟨hc, h.o.store (by have := h.lo; omega) h3 h4 hl.1 (hD g hg) j y, h.t3.set _ _ _, h.t4.set _ _ _, h.lo, h.l3, h.l4, h.ne⟩
theorem CL.box3 (h : CL B D b1 g3 g4 C1 C3 C4 w W t d u q) {z0 z1 z2 z3 z4 z5 z6 z7 z8 : Value} (hC : C3 = #[z0, z1, z2, z3, z4, z5, z6, z7, z8]) (u0 u1 u2 u3 u4 u5 u6 u7 u8 : Value) :
    CL B D b1 g3 g4 C1 #[u0, u1, u2, u3, u4, u5, u6, u7, u8] C4 w (set9 W g3 u0 u1 u2 u3 u4 u5 u6 u7 u8) t d u q := by
  subst hC
  have hs : (set9 W g3 u0 u1 u2 u3 u4 u5 u6 u7 u8).heap.size = W.heap.size := by simp [set9, World.size_setCell]
  have hx := set9_other h.o.x.1 (b := g3) (by have := h.lo; have := h.l3; omega) u0 u1 u2 u3 u4 u5 u6 u7 u8
  have ho := set9_other h.o.z.1 (b := g3) h.ne u0 u1 u2 u3 u4 u5 u6 u7 u8
  have hr := set9_row h.o.y.1 u0 u1 u2 u3 u4 u5 u6 u7 u8
  have hc := h.c.nine h.t3 u0 u1 u2 u3 u4 u5 u6 u7 u8
  have hd := h.o.d.nineT h.t3 u0 u1 u2 u3 u4 u5 u6 u7 u8
  have hb := set9_below h.o.b h.l3 u0 u1 u2 u3 u4 u5 u6 u7 u8
  have n3 : TBox (set9 W g3 u0 u1 u2 u3 u4 u5 u6 u7 u8) g3 := h.t3.nine9 g3 u0 u1 u2 u3 u4 u5 u6 u7 u8
  have n4 : TBox (set9 W g3 u0 u1 u2 u3 u4 u5 u6 u7 u8) g4 := h.t4.nine9 g3 u0 u1 u2 u3 u4 u5 u6 u7 u8
  exact ⟨hc, ⟨⟨hx, by rw [hs]; exact h.o.x.2⟩, ⟨hr, by rw [hs]; exact h.o.y.2⟩, ⟨ho, by rw [hs]; exact h.o.z.2⟩, hd, hb⟩, n3, n4, h.lo, h.l3, h.l4, h.ne⟩
theorem CL.box4 (h : CL B D b1 g3 g4 C1 C3 C4 w W t d u q) {z0 z1 z2 z3 z4 z5 z6 z7 z8 : Value} (hC : C4 = #[z0, z1, z2, z3, z4, z5, z6, z7, z8]) (u0 u1 u2 u3 u4 u5 u6 u7 u8 : Value) :
    CL B D b1 g3 g4 C1 C3 #[u0, u1, u2, u3, u4, u5, u6, u7, u8] w (set9 W g4 u0 u1 u2 u3 u4 u5 u6 u7 u8) t d u q := by
  subst hC
  have hs : (set9 W g4 u0 u1 u2 u3 u4 u5 u6 u7 u8).heap.size = W.heap.size := by simp [set9, World.size_setCell]
  have hx := set9_other h.o.x.1 (b := g4) (by have := h.lo; have := h.l4; omega) u0 u1 u2 u3 u4 u5 u6 u7 u8
  have ho := set9_other h.o.y.1 (b := g4) (Ne.symm h.ne) u0 u1 u2 u3 u4 u5 u6 u7 u8
  have hr := set9_row h.o.z.1 u0 u1 u2 u3 u4 u5 u6 u7 u8
  have hc := h.c.nine h.t4 u0 u1 u2 u3 u4 u5 u6 u7 u8
  have hd := h.o.d.nineT h.t4 u0 u1 u2 u3 u4 u5 u6 u7 u8
  have hb := set9_below h.o.b h.l4 u0 u1 u2 u3 u4 u5 u6 u7 u8
  have n3 : TBox (set9 W g4 u0 u1 u2 u3 u4 u5 u6 u7 u8) g3 := h.t3.nine9 g4 u0 u1 u2 u3 u4 u5 u6 u7 u8
  have n4 : TBox (set9 W g4 u0 u1 u2 u3 u4 u5 u6 u7 u8) g4 := h.t4.nine9 g4 u0 u1 u2 u3 u4 u5 u6 u7 u8
  exact ⟨hc, ⟨⟨hx, by rw [hs]; exact h.o.x.2⟩, ⟨ho, by rw [hs]; exact h.o.y.2⟩, ⟨hr, by rw [hs]; exact h.o.z.2⟩, hd, hb⟩, n3, n4, h.lo, h.l3, h.l4, h.ne⟩
end
abbrev zero9A : Array Value := #[.int .i64 0, .string ⟨#[]⟩, .string ⟨#[]⟩, .string ⟨#[]⟩, .slice none 0 0, .slice none 0 0, .slice none 0 0, .slice none 0 0, .int .i64 0]
structure St5 (b1 : Nat) (C1 : Array Value) (w W : World) (t : Tr) (o3 o4 : Option Nat) (q1 : Option (TP × Nat)) (q2 : Option TP) : Prop where
  b : Below w.heap.size w W
  x : Bx W b1 C1
  lo : b1 < w.heap.size
  h3 : ∀ g, o3 = some g → w.heap.size ≤ g ∧ Bx W g zero9A ∧ TBox W g
  h4 : ∀ g, o4 = some g → w.heap.size ≤ g ∧ Bx W g zero9A ∧ TBox W g
  ne : ∀ g g', o3 = some g → o4 = some g' → g ≠ g'
  c1 : ∀ q D, q1 = some (q, D) → TC w.heap.size D W t q ∧ D ≤ W.heap.size
  c2 : ∀ q D q', q1 = some (q, D) → q2 = some q' → TrO D W t q'
section
variable {b1 : Nat} {C1 : Array Value} {w W W' : World} {t : Tr} {o3 o4 : Option Nat} {q1 : Option (TP × Nat)} {q2 : Option TP}
theorem St5.next (h : St5 b1 C1 w W t o3 o4 q1 q2) (hb : Below W.heap.size W W') : St5 b1 C1 w W' t o3 o4 q1 q2 :=
  ⟨h.b.trans (hb.mono h.b.size), h.x.step hb, h.lo, fun g hg => ⟨(h.h3 g hg).1, (h.h3 g hg).2.1.step hb, (h.h3 g hg).2.2.below hb⟩, fun g hg => ⟨(h.h4 g hg).1, (h.h4 g hg).2.1.step hb, (h.h4 g hg).2.2.below hb⟩, h.ne,
    fun q D hq => ⟨(h.c1 q D hq).1.step hb, Nat.le_trans (h.c1 q D hq).2 hb.size⟩, fun q D q' hq hq' => (h.c2 q D q' hq hq').step hb⟩
theorem St5.a3 (h : St5 b1 C1 w W t none o4 q1 q2) : St5 b1 C1 w (W.alloc (.cells zero9A 27)) t (some W.heap.size) o4 q1 q2 := by
  have h1 := h.next (below_new W zero9A 27)
  refine ⟨h1.b, h1.x, h1.lo, fun g hg => ?_, h1.h4, fun g g' hg hg' => ?_, h1.c1, h1.c2⟩
  · cases hg
    exact ⟨h.b.size, Bx.new .., TBox.new ..⟩
  · cases hg
    exact Nat.ne_of_gt (h.h4 g' hg').2.2.lt
theorem St5.a4 (h : St5 b1 C1 w W t o3 none q1 q2) : St5 b1 C1 w (W.alloc (.cells zero9A 27)) t o3 (some W.heap.size) q1 q2 := by
  have h1 := h.next (below_new W zero9A 27)
  refine ⟨h1.b, h1.x, h1.lo, h1.h3, fun g hg => ?_, fun g g' hg hg' => ?_, h1.c1, h1.c2⟩
  · cases hg
    exact ⟨h.b.size, Bx.new .., TBox.new ..⟩
  · cases hg'
    exact Nat.ne_of_lt (h.h3 g hg).2.2.lt
theorem St5.k1 (h : St5 b1 C1 w W t o3 o4 none none) {q : TP} (hq : TrO W.heap.size W' t q) (hb : Below W.heap.size W W') : St5 b1 C1 w W' t o3 o4 (some (q, W'.heap.size)) none := by
  have h1 := h.next hb
  refine ⟨h1.b, h1.x, h1.lo, h1.h3, h1.h4, h1.ne, fun q' D hq' => ?_, fun _ _ _ _ h' => by cases h'⟩
  cases hq'
  exact ⟨TC.of (hq.lower h.b.size), Nat.le_refl _⟩
theorem St5.k2 {q : TP} {D : Nat} (h : St5 b1 C1 w W t o3 o4 (some (q, D)) none) {q' : TP} (hq : TrO W.heap.size W' t q') (hb : Below W.heap.size W W') : St5 b1 C1 w W' t o3 o4 (some (q, D)) (some q') := by
  have h1 := h.next hb
  refine ⟨h1.b, h1.x, h1.lo, h1.h3, h1.h4, h1.ne, h1.c1, fun _ _ _ h1 h2 => ?_⟩
  cases h1
  cases h2
  exact hq.lower (h.c1 q D rfl).2
theorem St5.cl {q q' : TP} {D g3 g4 : Nat} (h : St5 b1 C1 w W t (some g3) (some g4) (some (q, D)) (some q')) : CL w.heap.size D b1 g3 g4 C1 zero9A zero9A w W t q' t q :=
  ⟨(h.c1 q D rfl).1, ⟨h.x, (h.h3 _ rfl).2.1, (h.h4 _ rfl).2.1, h.c2 q D q' rfl rfl, h.b⟩, (h.h3 _ rfl).2.2, (h.h4 _ rfl).2.2, h.lo, (h.h3 _ rfl).1, (h.h4 _ rfl).1, h.ne _ _ rfl rfl⟩
end
end Go.Proofs.YtbiadennhnokhaaGreatDoor
