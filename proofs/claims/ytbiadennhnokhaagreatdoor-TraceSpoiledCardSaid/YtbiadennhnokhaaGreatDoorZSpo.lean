/- A cloned trace whose parts are written: rows of the call's own, and a box of its own type. -/
import Derived.Test.YtbiadennhnokhaaGreatDoorZ38
namespace Go.Proofs.YtbiadennhnokhaaGreatDoor
open Go.RowKit
set_option linter.unusedSimpArgs false

theorem own_not_box {W : World} {B e size n b : Nat} {v : Value} {xs : List Value} {C : Array Value} {T : TypeId} {fr : Nat × Nat} (h : W.ownsRow B e size v n xs) (hb : W.heap[b]? = some (.cells C T fr)) (hT : T ≠ e) : v.ownBlock ≠ some b := by
  rcases h.2 with ⟨rfl, -⟩ | ⟨g, cap, cur, rfl, -, hg, -⟩
  · simp [Value.ownBlock]
  · intro h0
    obtain rfl : g = b := by simpa [Value.ownBlock] using h0
    rw [hb] at hg
    injection hg with hg
    injection hg with _ h2 _
    exact hT h2
/-- a box of the type of traces -/
def TBox (W : World) (b : Nat) : Prop := ∃ C, W.heap[b]? = some (.cells C 27 (0, 0))
theorem TBox.new (W : World) (C : Array Value) : TBox (W.alloc (.cells C 27)) W.heap.size := ⟨C, heap_alloc_new W _⟩
theorem TBox.lt {W : World} {b : Nat} (h : TBox W b) : b < W.heap.size := by
  obtain ⟨C, h⟩ := h
  exact (Array.getElem?_eq_some_iff.1 h).1
theorem TBox.alloc {W : World} {b : Nat} (h : TBox W b) (o : Obj) : TBox (W.alloc o) b := by
  obtain ⟨C, hb⟩ := h
  exact ⟨C, ((World.grownBy_alloc W o none).block b (Array.getElem?_eq_some_iff.1 hb).1 (by simp)).trans hb⟩
theorem TBox.grown {W W2 : World} {b : Nat} {row : Option Nat} (h : TBox W b) (hg : W.grownBy W2 row) (hne : row ≠ some b) : TBox W2 b := by
  obtain ⟨C, hb⟩ := h
  exact ⟨C, (hg.block b (Array.getElem?_eq_some_iff.1 hb).1 (Ne.symm hne)).trans hb⟩
theorem TBox.ne {W : World} {b B e size n : Nat} {v : Value} {xs : List Value} (h : TBox W b) (ho : W.ownsRow B e size v n xs) (hT : 27 ≠ e) : v.ownBlock ≠ some b := by
  obtain ⟨C, hb⟩ := h
  exact own_not_box ho hb hT
theorem TBox.set {W : World} {b : Nat} (h : TBox W b) (c j : Nat) (u : Value) : TBox (W.setCell ⟨c, j, none⟩ u) b := by
  obtain ⟨C, hb⟩ := h
  by_cases hc : c = b
  · subst hc
    exact ⟨_, heap_setCell_same W c j C _ u hb⟩
  · exact ⟨C, (heap_setCell_other W ⟨c, j, none⟩ b u (fun h => hc h.symm)).trans hb⟩
theorem TrO.box {B : Nat} {W : World} {t : Tr} {q : TP} (h : TrO B W t q) {b : Nat} (hb : TBox W b) (j : Nat) (u : Value) : TrO B (W.setCell ⟨b, j, none⟩ u) t q :=
  ⟨ownsRow_setCell_other (a := ⟨b, j, none⟩) h.s (hb.ne h.s (by decide)) u, ownsRow_setCell_other (a := ⟨b, j, none⟩) h.v (hb.ne h.v (by decide)) u, ownsRow_setCell_other (a := ⟨b, j, none⟩) h.g (hb.ne h.g (by decide)) u,
    fun x hx => ownsRow_setCell_other (a := ⟨b, j, none⟩) (h.c x hx) (hb.ne (h.c x hx) (by decide)) u, ownsRow_setCell_other (a := ⟨b, j, none⟩) h.q (hb.ne h.q (by decide)) u, h.m⟩
theorem TrO.alloc {B : Nat} {W : World} {t : Tr} {q : TP} (h : TrO B W t q) (o : Obj) : TrO B (W.alloc o) t q :=
  ⟨h.s.alloc o, h.v.alloc o, h.g.alloc o, fun x hx => (h.c x hx).alloc o, h.q.alloc o, h.m⟩
theorem TrO.addG {B : Nat} {W W2 : World} {t : Tr} {q : TP} (h : TrO B W t q) {v : Value} {x : Sg × Value} (hg : W.grownBy W2 q.vg.ownBlock) (ho : W2.ownsRow B 45 3 v (q.M.length + 1) (sgs q.M ++ sgC x)) (hx : W.ownsRow B 53 2 x.2 x.1.2.2.length (chs x.1.2.2)) :
    TrO B W2 { t with G := t.G ++ [x.1] } { q with vg := v, M := q.M ++ [x] } := by
  refine ⟨h.s.kept hg (own_apart h.s h.g (by decide)), h.v.kept hg (own_apart h.v h.g (by decide)), ?_, ?_, h.q.kept hg (own_apart h.q h.g (by decide)), ?_⟩
  · rw [sgs_app, List.length_append]
    simpa [sgs] using ho
  · intro y hy
    rcases List.mem_append.1 hy with hy | hy
    · exact (h.c y hy).kept hg (own_apart (h.c y hy) h.g (by decide))
    · rw [List.mem_singleton] at hy
      subst hy
      exact hx.kept hg (own_apart hx h.g (by decide))
  · rw [List.map_append, h.m]
    rfl
theorem TrO.addP {B : Nat} {W W2 : World} {t : Tr} {q : TP} (h : TrO B W t q) {v : Value} {g : Gp} (hg : W.grownBy W2 q.vp.ownBlock) (ho : W2.ownsRow B 57 2 v (t.P.length + 1) (gps t.P ++ gpC g)) :
    TrO B W2 { t with P := t.P ++ [g] } { q with vp := v } := by
  refine ⟨h.s.kept hg (own_apart h.s h.q (by decide)), h.v.kept hg (own_apart h.v h.q (by decide)), h.g.kept hg (own_apart h.g h.q (by decide)), fun x hx => (h.c x hx).kept hg (own_apart (h.c x hx) h.q (by decide)), ?_, h.m⟩
  rw [gps_snoc, List.length_append]
  exact ho
theorem TrO.noP {B : Nat} {W : World} {t : Tr} {q : TP} (h : TrO B W t q) (en : Int) : TrO B W { t with P := [], en := en } { q with vp := .slice none 0 0 } :=
  ⟨h.s, h.v, h.g, h.c, World.ownsRow_nil _ _ _ _, h.m⟩
/-- the first signal is written whole -/
theorem TrO.setG {B : Nat} {W : World} {t : Tr} {q : TP} (h : TrO B W t q) {x : Sg × Value} {M : List (Sg × Value)} (hM : q.M = x :: M) {g c : Nat} (hv : q.vg = .slice (some ⟨g, 0, none⟩) (M.length + 1) c) :
    TrO B (((W.setCell ⟨g, 0, none⟩ (.int .i64 2)).setCell ⟨g, 1, none⟩ (.int .i64 0)).setCell ⟨g, 2, none⟩ (.slice none 0 0)) { t with G := (2, 0, []) :: t.G.tail } { q with M := ((2, 0, []), .slice none 0 0) :: M } := by
  have hgb : q.vg.ownBlock = some g := by rw [hv]; rfl
  have k : ∀ {e size n : Nat} {v : Value} {xs : List Value}, W.ownsRow B e size v n xs → e ≠ 45 → (((W.setCell ⟨g, 0, none⟩ (.int .i64 2)).setCell ⟨g, 1, none⟩ (.int .i64 0)).setCell ⟨g, 2, none⟩ (.slice none 0 0)).ownsRow B e size v n xs := fun ho hne => by
    have h1 := own_ne ho h.g hne hgb
    exact ownsRow_setCell_other (a := ⟨g, 2, none⟩) (ownsRow_setCell_other (a := ⟨g, 1, none⟩) (ownsRow_setCell_other (a := ⟨g, 0, none⟩) ho h1 _) h1 _) h1 _
  have hg := h.g
  rw [hM, hv] at hg
  refine ⟨k h.s (by decide), k h.v (by decide), ?_, ?_, k h.q (by decide), ?_⟩
  · rw [hv]
    have := own_set (own_set (own_set hg 0 (.int .i64 2)) 1 (.int .i64 0)) 2 (.slice none 0 0)
    exact this
  · intro y hy
    rcases List.mem_cons.1 hy with rfl | hy
    · exact World.ownsRow_nil _ _ _ _
    · exact k (h.c y (by rw [hM]; exact List.mem_cons_of_mem _ hy)) (by decide)
  · have := h.m
    rw [hM] at this
    rw [← this]
    rfl
/-- a box of nine cells, whatever they hold -/
def BxA (W : World) (b : Nat) : Prop := ∃ u0 u1 u2 u3 u4 u5 u6 u7 u8, OwnRow W b [u0, u1, u2, u3, u4, u5, u6, u7, u8] ∧ TBox W b
theorem TBox.below {W W' : World} {b : Nat} (h : TBox W b) (hb : Below W.heap.size W W') : TBox W' b := by
  have hlt := h.lt
  obtain ⟨C, h⟩ := h
  exact ⟨C, (hb.block b hlt).trans h⟩
theorem BxA.below {W W' : World} {b : Nat} (h : BxA W b) (hb : Below W.heap.size W W') : BxA W' b := by
  obtain ⟨u0, u1, u2, u3, u4, u5, u6, u7, u8, h1, h2⟩ := h
  exact ⟨u0, u1, u2, u3, u4, u5, u6, u7, u8, h1.below hb h2.lt, h2.below hb⟩
/-- a trace in rows behind a box, and the box is written whole -/
theorem TrO.nine {B : Nat} {W : World} {t : Tr} {q : TP} (h : TrO B W t q) {b : Nat} (hb : b < B) (u0 u1 u2 u3 u4 u5 u6 u7 u8 : Value) : TrO B (set9 W b u0 u1 u2 u3 u4 u5 u6 u7 u8) t q :=
  ⟨set9_own h.s hb .., set9_own h.v hb .., set9_own h.g hb .., fun x hx => set9_own (h.c x hx) hb .., set9_own h.q hb .., h.m⟩
theorem TBox.nine {W : World} {b : Nat} (h : TBox W b) (u0 u1 u2 u3 u4 u5 u6 u7 u8 : Value) : TBox (set9 W b u0 u1 u2 u3 u4 u5 u6 u7 u8) b :=
  ((((((((h.set _ _ _).set _ _ _).set _ _ _).set _ _ _).set _ _ _).set _ _ _).set _ _ _).set _ _ _).set _ _ _
theorem TrO.boxlt {B : Nat} {W : World} {t : Tr} {q : TP} (h : TrO B W t q) {b : Nat} (hb : b < B) (j : Nat) (u : Value) : TrO B (W.setCell ⟨b, j, none⟩ u) t q :=
  ⟨ownsRow_setCell_below h.s hb u, ownsRow_setCell_below h.v hb u, ownsRow_setCell_below h.g hb u, fun x hx => ownsRow_setCell_below (h.c x hx) hb u, ownsRow_setCell_below h.q hb u, h.m⟩
theorem OwnRow.belowB {B : Nat} {w w' : World} {b : Nat} {xs : List Value} (h : OwnRow w b xs) (hb : Below B w w') (hl : b < B) : OwnRow w' b xs := fun j v hj =>
  ⟨(hb.cell (p := ⟨b, j, none⟩) hl).trans (h j v hj).1, (hb.frozen (p := ⟨b, j, none⟩) hl).trans (h j v hj).2⟩
theorem TBox.belowB {B : Nat} {W W' : World} {b : Nat} (h : TBox W b) (hb : Below B W W') (hl : b < B) : TBox W' b := by
  obtain ⟨C, h⟩ := h
  exact ⟨C, (hb.block b hl).trans h⟩
theorem TrO.drew {B : Nat} {W : World} {t : Tr} {q : TP} (h : TrO B W t q) : TrO B W.drew t q := ⟨h.s.drew, h.v.drew, h.g.drew, fun x hx => (h.c x hx).drew, h.q.drew, h.m⟩
end Go.Proofs.YtbiadennhnokhaaGreatDoor
