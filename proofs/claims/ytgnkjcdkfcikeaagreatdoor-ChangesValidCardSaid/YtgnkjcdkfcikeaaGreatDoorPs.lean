/- The reader of simulation commands in memory: records, problems, words, declared variables, and the parser's own cells. -/
import Derived.Test.YtgnkjcdkfcikeaaGreatDoorMp
import Derived.Laws.OwnMore
import Derived.OneCell
import Derived.Test.YtgnkjcdkfcikeaaGreatDoorCw13
namespace Go.Proofs.YtgnkjcdkfcikeaaGreatDoor
open Go.RowKit
set_option linter.unusedSimpArgs false

/-! lists of records of four cells -/
def recC (r : Rc) : List Value := [.int .i64 r.1, .int .i64 r.2.1, .string (bsB r.2.2.1), .string (bsB r.2.2.2)]
def prbC (p : Pb) : List Value := [.int .i64 p.1, .int .i64 p.2.1, .int .i64 p.2.2.1, .int .i64 p.2.2.2]
def wdC (w : Wd) : List Value := [.string (bsB w.1), .int .i64 w.2.1, .int .i64 w.2.2.1, .int .i64 w.2.2.2]
def recs (l : List Rc) : List Value := l.flatMap recC
def prbs (l : List Pb) : List Value := l.flatMap prbC
def wds (l : List Wd) : List Value := l.flatMap wdC
abbrev recV (r : Rc) : Value := .agg #[.int .i64 r.1, .int .i64 r.2.1, .string (bsB r.2.2.1), .string (bsB r.2.2.2)]
abbrev prbV (p : Pb) : Value := .agg #[.int .i64 p.1, .int .i64 p.2.1, .int .i64 p.2.2.1, .int .i64 p.2.2.2]
abbrev wdV (w : Wd) : Value := .agg #[.string (bsB w.1), .int .i64 w.2.1, .int .i64 w.2.2.1, .int .i64 w.2.2.2]
theorem recs_app (l m : List Rc) : recs (l ++ m) = recs l ++ recs m := by simp [recs]
theorem recs_cons (x : Rc) (l : List Rc) : recs (x :: l) = recC x ++ recs l := rfl
theorem recs_len : ∀ l : List Rc, (recs l).length = 4 * l.length
  | [] => rfl
  | x :: l => by rw [recs_cons, List.length_append, recs_len l]; show 4 + _ = _; rw [List.length_cons]; omega
theorem recs_snoc (l : List Rc) (x : Rc) : recs (l ++ [x]) = recs l ++ recC x := by rw [recs_app]; simp [recs]
theorem recs_at : ∀ (l : List Rc) (k : Nat) (h : k < l.length), (recs l)[4 * k]? = some (.int .i64 l[k].1) ∧ (recs l)[4 * k + 1]? = some (.int .i64 l[k].2.1) ∧ (recs l)[4 * k + 2]? = some (.string (bsB l[k].2.2.1)) ∧ (recs l)[4 * k + 3]? = some (.string (bsB l[k].2.2.2))
  | x :: l, 0, _ => ⟨rfl, rfl, rfl, rfl⟩
  | x :: l, k + 1, h => by
    have := recs_at l k (by simpa using h)
    rw [recs_cons, show 4 * (k + 1) = 4 * k + 1 + 1 + 1 + 1 by omega]
    simpa [recC] using this
theorem SlR.recs {w : World} {a : Option Addr} {cap : Nat} {l : List Rc} (h : SlR w (.slice a l.length cap) l.length (recs l)) {k : Nat} (hk : k < l.length) :
    ∃ b o, a = some ⟨b, o, none⟩ ∧ w.cell? ⟨b, o + k * 4, none⟩ = some (.int .i64 l[k].1) ∧ w.cell? ⟨b, o + k * 4 + 1, none⟩ = some (.int .i64 l[k].2.1) ∧ w.cell? ⟨b, o + k * 4 + 2, none⟩ = some (.string (bsB l[k].2.2.1)) ∧ w.cell? ⟨b, o + k * 4 + 3, none⟩ = some (.string (bsB l[k].2.2.2)) := by
  obtain ⟨b, o, cap', hv, -, -, hcell⟩ := h.at (by omega)
  injection hv with e1 _ _
  obtain ⟨h0, h1, h2, h3⟩ := recs_at l k hk
  refine ⟨b, o, e1, ?_, ?_, ?_, ?_⟩
  · have := hcell _ _ h0; rwa [Nat.mul_comm 4 k] at this
  · have := hcell _ _ h1; rwa [Nat.mul_comm 4 k, ← Nat.add_assoc] at this
  · have := hcell _ _ h2; rwa [Nat.mul_comm 4 k, ← Nat.add_assoc] at this
  · have := hcell _ _ h3; rwa [Nat.mul_comm 4 k, ← Nat.add_assoc] at this
theorem prbs_app (l m : List Pb) : prbs (l ++ m) = prbs l ++ prbs m := by simp [prbs]
theorem prbs_cons (x : Pb) (l : List Pb) : prbs (x :: l) = prbC x ++ prbs l := rfl
theorem prbs_len : ∀ l : List Pb, (prbs l).length = 4 * l.length
  | [] => rfl
  | x :: l => by rw [prbs_cons, List.length_append, prbs_len l]; show 4 + _ = _; rw [List.length_cons]; omega
theorem prbs_snoc (l : List Pb) (x : Pb) : prbs (l ++ [x]) = prbs l ++ prbC x := by rw [prbs_app]; simp [prbs]
theorem prbs_at : ∀ (l : List Pb) (k : Nat) (h : k < l.length), (prbs l)[4 * k]? = some (.int .i64 l[k].1) ∧ (prbs l)[4 * k + 1]? = some (.int .i64 l[k].2.1) ∧ (prbs l)[4 * k + 2]? = some (.int .i64 l[k].2.2.1) ∧ (prbs l)[4 * k + 3]? = some (.int .i64 l[k].2.2.2)
  | x :: l, 0, _ => ⟨rfl, rfl, rfl, rfl⟩
  | x :: l, k + 1, h => by
    have := prbs_at l k (by simpa using h)
    rw [prbs_cons, show 4 * (k + 1) = 4 * k + 1 + 1 + 1 + 1 by omega]
    simpa [prbC] using this
theorem SlR.prbs {w : World} {a : Option Addr} {cap : Nat} {l : List Pb} (h : SlR w (.slice a l.length cap) l.length (prbs l)) {k : Nat} (hk : k < l.length) :
    ∃ b o, a = some ⟨b, o, none⟩ ∧ w.cell? ⟨b, o + k * 4, none⟩ = some (.int .i64 l[k].1) ∧ w.cell? ⟨b, o + k * 4 + 1, none⟩ = some (.int .i64 l[k].2.1) ∧ w.cell? ⟨b, o + k * 4 + 2, none⟩ = some (.int .i64 l[k].2.2.1) ∧ w.cell? ⟨b, o + k * 4 + 3, none⟩ = some (.int .i64 l[k].2.2.2) := by
  obtain ⟨b, o, cap', hv, -, -, hcell⟩ := h.at (by omega)
  injection hv with e1 _ _
  obtain ⟨h0, h1, h2, h3⟩ := prbs_at l k hk
  refine ⟨b, o, e1, ?_, ?_, ?_, ?_⟩
  · have := hcell _ _ h0; rwa [Nat.mul_comm 4 k] at this
  · have := hcell _ _ h1; rwa [Nat.mul_comm 4 k, ← Nat.add_assoc] at this
  · have := hcell _ _ h2; rwa [Nat.mul_comm 4 k, ← Nat.add_assoc] at this
  · have := hcell _ _ h3; rwa [Nat.mul_comm 4 k, ← Nat.add_assoc] at this
theorem wds_app (l m : List Wd) : wds (l ++ m) = wds l ++ wds m := by simp [wds]
theorem wds_cons (x : Wd) (l : List Wd) : wds (x :: l) = wdC x ++ wds l := rfl
theorem wds_len : ∀ l : List Wd, (wds l).length = 4 * l.length
  | [] => rfl
  | x :: l => by rw [wds_cons, List.length_append, wds_len l]; show 4 + _ = _; rw [List.length_cons]; omega
theorem wds_snoc (l : List Wd) (x : Wd) : wds (l ++ [x]) = wds l ++ wdC x := by rw [wds_app]; simp [wds]
theorem wds_at : ∀ (l : List Wd) (k : Nat) (h : k < l.length), (wds l)[4 * k]? = some (.string (bsB l[k].1)) ∧ (wds l)[4 * k + 1]? = some (.int .i64 l[k].2.1) ∧ (wds l)[4 * k + 2]? = some (.int .i64 l[k].2.2.1) ∧ (wds l)[4 * k + 3]? = some (.int .i64 l[k].2.2.2)
  | x :: l, 0, _ => ⟨rfl, rfl, rfl, rfl⟩
  | x :: l, k + 1, h => by
    have := wds_at l k (by simpa using h)
    rw [wds_cons, show 4 * (k + 1) = 4 * k + 1 + 1 + 1 + 1 by omega]
    simpa [wdC] using this
theorem SlR.wds {w : World} {a : Option Addr} {cap : Nat} {l : List Wd} (h : SlR w (.slice a l.length cap) l.length (wds l)) {k : Nat} (hk : k < l.length) :
    ∃ b o, a = some ⟨b, o, none⟩ ∧ w.cell? ⟨b, o + k * 4, none⟩ = some (.string (bsB l[k].1)) ∧ w.cell? ⟨b, o + k * 4 + 1, none⟩ = some (.int .i64 l[k].2.1) ∧ w.cell? ⟨b, o + k * 4 + 2, none⟩ = some (.int .i64 l[k].2.2.1) ∧ w.cell? ⟨b, o + k * 4 + 3, none⟩ = some (.int .i64 l[k].2.2.2) := by
  obtain ⟨b, o, cap', hv, -, -, hcell⟩ := h.at (by omega)
  injection hv with e1 _ _
  obtain ⟨h0, h1, h2, h3⟩ := wds_at l k hk
  refine ⟨b, o, e1, ?_, ?_, ?_, ?_⟩
  · have := hcell _ _ h0; rwa [Nat.mul_comm 4 k] at this
  · have := hcell _ _ h1; rwa [Nat.mul_comm 4 k, ← Nat.add_assoc] at this
  · have := hcell _ _ h2; rwa [Nat.mul_comm 4 k, ← Nat.add_assoc] at this
  · have := hcell _ _ h3; rwa [Nat.mul_comm 4 k, ← Nat.add_assoc] at this
theorem rec_info : (Tryz.prog.info? 45).map (fun i => (i.zero, i.size, i.bytes)) = some (some (.agg #[.int .i64 0, .int .i64 0, .string ⟨#[]⟩, .string ⟨#[]⟩]), 4, 48) := by kernel_rfl
theorem prb_info : (Tryz.prog.info? 42).map (fun i => (i.zero, i.size, i.bytes)) = some (some (.agg #[.int .i64 0, .int .i64 0, .int .i64 0, .int .i64 0]), 4, 32) := by kernel_rfl
theorem wd_info : (Tryz.prog.info? 39).map (fun i => (i.zero, i.size, i.bytes)) = some (some (.agg #[.string ⟨#[]⟩, .int .i64 0, .int .i64 0, .int .i64 0]), 4, 40) := by kernel_rfl

/-! declared variables -/
structure Dcl where
  nm : Bs
  ty : Int
  sc : Int
  sg : Int
  rg : Bool
  mb : Int
  lb : Int
  code : Bs
  kind : Int
  width : Int
def Dcl.dc (d : Dcl) : Dc := (d.code, d.kind, d.width)
def dclC (d : Dcl) : List Value := [.string (bsB d.nm), .int .i64 d.ty, .int .i64 d.sc, .int .i64 d.sg, .bool d.rg, .int .i64 d.mb, .int .i64 d.lb, .string (bsB d.code), .int .i64 d.kind, .int .i64 d.width]
abbrev dclV (d : Dcl) : Value := .agg #[.string (bsB d.nm), .int .i64 d.ty, .int .i64 d.sc, .int .i64 d.sg, .bool d.rg, .int .i64 d.mb, .int .i64 d.lb, .string (bsB d.code), .int .i64 d.kind, .int .i64 d.width]
abbrev dclZ : Value := .agg #[.string ⟨#[]⟩, .int .i64 0, .int .i64 0, .int .i64 0, .bool false, .int .i64 0, .int .i64 0, .string ⟨#[]⟩, .int .i64 0, .int .i64 0]
def dcls (l : List Dcl) : List Value := l.flatMap dclC
theorem dcls_app (l m : List Dcl) : dcls (l ++ m) = dcls l ++ dcls m := by simp [dcls]
theorem dcls_cons (x : Dcl) (l : List Dcl) : dcls (x :: l) = dclC x ++ dcls l := rfl
theorem dcls_len : ∀ l : List Dcl, (dcls l).length = 10 * l.length
  | [] => rfl
  | x :: l => by rw [dcls_cons, List.length_append, dcls_len l]; show 10 + _ = _; rw [List.length_cons]; omega
theorem dcls_at : ∀ (l : List Dcl) (k : Nat) (h : k < l.length) (j : Nat), j < 10 → (dcls l)[10 * k + j]? = (dclC l[k])[j]?
  | x :: l, 0, _, j, hj => by
    rw [dcls_cons, List.getElem?_append_left (by simp [dclC]; omega)]
    simp
  | x :: l, k + 1, h, j, hj => by
    have := dcls_at l k (by simpa using h) j hj
    rw [dcls_cons, List.getElem?_append_right (by simp [dclC]; omega)]
    rw [show 10 * (k + 1) + j - (dclC x).length = 10 * k + j by simp [dclC]; omega]
    simpa using this
theorem SlR.dcls {w : World} {a : Option Addr} {cap : Nat} {l : List Dcl} (h : SlR w (.slice a l.length cap) l.length (dcls l)) {k : Nat} (hk : k < l.length) :
    ∃ b o, a = some ⟨b, o, none⟩ ∧ ∀ (j : Nat) (u : Value), (dclC l[k])[j]? = some u → w.cell? ⟨b, o + k * 10 + j, none⟩ = some u := by
  obtain ⟨b, o, cap', hv, -, -, hcell⟩ := h.at (by omega)
  injection hv with e1 _ _
  refine ⟨b, o, e1, fun j u hj => ?_⟩
  have hj10 : j < 10 := by have := (List.getElem?_eq_some_iff.1 hj).1; simpa [dclC] using this
  have := hcell _ _ ((dcls_at l k hk j hj10).trans hj)
  rwa [Nat.mul_comm 10 k, ← Nat.add_assoc] at this
/-- the first declared variable that counts, by code -/
def knF (L : List Dcl) (c : Bs) : Option Dcl := L.find? fun x => cnt cv x.dc && decide (x.code = c)
theorem knF_map (L : List Dcl) (c : Bs) : knL cv (L.map Dcl.dc) c = (knF L c).map Dcl.dc := by
  unfold knL knF
  rw [List.find?_map]
  rfl
def sigF (L : List Dcl) (c : Bs) : Option Value := (knF L c).map fun d => dclV d

/-! rows of the call's own -/
theorem own_row {w : World} {B e size n : Nat} {g c : Nat} {xs : List Value} (h : w.ownsRow B e size (.slice (some ⟨g, 0, none⟩) n c) n xs) : OwnRow w g xs := by
  rcases h.2 with ⟨h0, -⟩ | ⟨g', cap', cur, h0, hbase, hb, hn, hm, hsz, htk⟩
  · cases h0
  injection h0 with e1 _ e3
  injection e1 with e1
  injection e1 with e1 _ _
  subst e1 e3
  intro j u hj
  have hj' : cur.toList[j]? = some u := by
    rw [← htk, List.getElem?_take] at hj
    split at hj
    · exact hj
    · cases hj
  rw [Array.getElem?_toList] at hj'
  exact ⟨by simp [World.cell?, hb, hj'], by simp [World.frozen?, hb]⟩
theorem own_ne2 {w : World} {B B' e e' size size' n n' : Nat} {v v' : Value} {xs xs' : List Value} (h : w.ownsRow B e size v n xs) (h' : w.ownsRow B' e' size' v' n' xs') (hne : e ≠ e') : v.ownBlock = none ∨ v.ownBlock ≠ v'.ownBlock := by
  rcases h.2 with ⟨rfl, _⟩ | ⟨g, cap, cur, rfl, _, hgg, _⟩
  · exact .inl rfl
  · rcases h'.2 with ⟨rfl, _⟩ | ⟨g', cap', cur', rfl, _, hgg', _⟩
    · exact .inr (by simp [Value.ownBlock])
    · refine .inr fun he => ?_
      simp only [Value.ownBlock, Option.some.injEq] at he
      subst he
      rw [hgg] at hgg'
      simp only [Option.some.injEq, Obj.cells.injEq] at hgg'
      exact hne hgg'.2.1
theorem own_set {w : World} {B e size n g c : Nat} {xs : List Value} (h : w.ownsRow B e size (.slice (some ⟨g, 0, none⟩) n c) n xs) (j : Nat) (u : Value) :
    (w.setCell ⟨g, j, none⟩ u).ownsRow B e size (.slice (some ⟨g, 0, none⟩) n c) n (xs.set j u) := (h.stored j u).1
theorem own_set_other {w : World} {B B' e e' size size' n n' g c : Nat} {v : Value} {xs xs' : List Value} (h : w.ownsRow B e size v n xs) (h' : w.ownsRow B' e' size' (.slice (some ⟨g, 0, none⟩) n' c) n' xs') (hne : e ≠ e') (j : Nat) (u : Value) :
    (w.setCell ⟨g, j, none⟩ u).ownsRow B e size v n xs := ownsRow_setCell_other h (by
      rcases own_ne2 h h' hne with h1 | h1
      · rw [h1]; intro h; cases h
      · exact h1) u

theorem OwnRow.setFar {w : World} {b b' : Nat} {xs : List Value} (h : OwnRow w b xs) (hb : b' ≠ b) (o : Nat) (u : Value) : OwnRow (w.setCell ⟨b', o, none⟩ u) b xs := by
  intro j v hj
  have := h j v hj
  refine ⟨?_, by rw [World.frozen?_setCell]; exact this.2⟩
  rw [World.cell?_setCell_other (h := by intro e; apply hb; injection e with e1 _ _)]
  exact this.1

/-! the parser -/
/-- of the blocks of cells all but B and the rows of records and of problems stay -/
def KeepP (B : Nat) (W W' : World) : Prop := ∀ (b : Nat) (C : Array Value) (T : TypeId) (fr : Nat × Nat), b ≠ B → T ≠ 45 → T ≠ 42 → W.heap[b]? = some (.cells C T fr) → W'.heap[b]? = some (.cells C T fr)
theorem KeepP.refl (B : Nat) (W : World) : KeepP B W W := fun _ _ _ _ _ _ _ h => h
theorem KeepP.trans {B : Nat} {W V U : World} (h : KeepP B W V) (k : KeepP B V U) : KeepP B W U := fun b C T fr h1 h2 h3 h4 => k b C T fr h1 h2 h3 (h b C T fr h1 h2 h3 h4)
theorem KeepP.below {B : Nat} {W V : World} (h : Below W.heap.size W V) : KeepP B W V := fun b C T fr _ _ _ h4 => by
  rw [h.block b (Array.getElem?_eq_some_iff.1 h4).1]
  exact h4
theorem KeepP.setCell (B : Nat) (W : World) (j : Nat) (u : Value) : KeepP B W (W.setCell ⟨B, j, none⟩ u) := fun b C T fr h1 _ _ h4 => by
  rw [Below.heap_setCell _ _ _ _ h1]
  exact h4
theorem KeepP.grown {B : Nat} {W V : World} {base e size n : Nat} {v : Value} {xs : List Value} (ho : W.ownsRow base e size v n xs) (he : e = 45 ∨ e = 42) (hg : W.grownBy V v.ownBlock) : KeepP B W V := fun b C T fr _ h2 h3 h4 => by
  rw [hg.block b (Array.getElem?_eq_some_iff.1 h4).1 (fun q => by
    rcases ho.2 with ⟨rfl, -⟩ | ⟨g, cap, cur, rfl, -, hb, -⟩
    · cases q
    · injection q with q
      subst q
      rw [hb] at h4
      injection h4 with h4
      injection h4 with _ h5 _
      rcases he with rfl | rfl
      · exact h2 h5.symm
      · exact h3 h5.symm)]
  exact h4
theorem OwnRow.same {W V : World} {b : Nat} {xs : List Value} (h : OwnRow W b xs) (hb : V.heap[b]? = W.heap[b]?) : OwnRow V b xs := fun j v hj => by
  have := h j v hj
  refine ⟨?_, ?_⟩
  · rw [← this.1]; simp [World.cell?, hb]
  · rw [← this.2]; simp [World.frozen?, hb]
/-- a box of another type stays -/
theorem KeepP.box {B : Nat} {W V U : World} {C : Array Value} {T : TypeId} (h : KeepP B V U) (hs : V.heap[W.heap.size]? = (W.alloc (.cells C T)).heap[W.heap.size]?) (hB : B < W.heap.size) (h1 : T ≠ 45) (h2 : T ≠ 42) : OwnRow U W.heap.size C.toList := by
  have h3 := heap_alloc_new W (.cells C T)
  exact (OwnRow.fresh W C T).same ((h _ _ _ _ (by omega) h1 h2 (hs.trans h3)).trans h3.symm)
structure PC where
  wk : World
  w0 : World
  B : Nat
  mb : Nat
  kb : Nat
  n : Nat
  m : Nat
  F : BsM → Option Value
  G : BsM → Option Value
  wa : Option Addr
  wn : Nat
  wc : Nat
def parC (c : PC) (i : Int) (s : PS) (vo vr : Value) : List Value := [.slice c.wa c.wn c.wc, .int .i64 i, .map (some c.mb), .int .i64 s.last, .bool s.off, .bool s.opn, .bool s.skip, vo, vr]
structure ParX (c : PC) (i : Int) (s : PS) (vo vr : Value) (W : World) : Prop where
  p : W.ownsRow c.w0.heap.size 82 9 (.slice (some ⟨c.B, 0, none⟩) 1 1) 1 (parC c i s vo vr)
  o : W.ownsRow c.w0.heap.size 45 4 vo s.out.length (recs s.out)
  r : W.ownsRow c.w0.heap.size 42 4 vr s.wrong.length (prbs s.wrong)
  g : SMap Tryz.prog 9 W c.mb c.n c.F
  k : SMap Tryz.prog 9 W c.kb c.m c.G
  b : Below c.w0.heap.size c.w0 W
  kp : KeepP c.B c.wk W
theorem own_after {W W' : World} {B e size n : Nat} {v : Value} {xs : List Value} (h : W.ownsRow B e size v n xs) (hb : RowKit.Below W.heap.size W W') : W'.ownsRow B e size v n xs :=
  h.kept (row := none) ⟨hb.os, hb.tape, hb.output, hb.size, fun i hi _ => hb.block i hi⟩ (by cases v.ownBlock <;> simp)
theorem ParX.later {c : PC} {i : Int} {s : PS} {vo vr : Value} {W W' : World} (h : ParX c i s vo vr W) (hb : Below W.heap.size W W') : ParX c i s vo vr W' :=
  ⟨own_after h.p hb, own_after h.o hb, own_after h.r hb, h.g.below hb h.g.lt, h.k.below hb h.k.lt, h.b.trans (hb.mono h.b.size), h.kp.trans (.below hb)⟩
theorem ParX.row {c : PC} {i : Int} {s : PS} {vo vr : Value} {W : World} (h : ParX c i s vo vr W) : OwnRow W c.B (parC c i s vo vr) := own_row h.p
theorem ParX.lo {c : PC} {i : Int} {s : PS} {vo vr : Value} {W : World} (h : ParX c i s vo vr W) : c.w0.heap.size ≤ c.B ∧ c.B < W.heap.size := h.p.lt _ rfl
theorem ParX.map_ne {c : PC} {i : Int} {s : PS} {vo vr : Value} {W : World} (h : ParX c i s vo vr W) : c.mb ≠ c.B ∧ c.kb ≠ c.B :=
  ⟨fun e => h.g.ne_row h.p (by rw [e]; rfl), fun e => h.k.ne_row h.p (by rw [e]; rfl)⟩
/-- a cell of the parser is stored -/
theorem ParX.set {c : PC} {i : Int} {s : PS} {vo vr : Value} {W : World} (h : ParX c i s vo vr W) (j : Nat) (u : Value) {i' : Int} {s' : PS} (hp : (parC c i s vo vr).set j u = parC c i' s' vo vr) (ho : s'.out = s.out) (hr : s'.wrong = s.wrong) :
    ParX c i' s' vo vr (W.setCell ⟨c.B, j, none⟩ u) := by
  refine ⟨hp ▸ own_set h.p j u, ?_, ?_, h.g.setCell h.map_ne.1 u, h.k.setCell h.map_ne.2 u, h.b.setCell h.lo.1 u, h.kp.trans (.setCell _ _ _ _)⟩
  · rw [ho]; exact own_set_other h.o h.p (by decide) j u
  · rw [hr]; exact own_set_other h.r h.p (by decide) j u
/-- a record is added -/
theorem ParX.addO {c : PC} {i : Int} {s : PS} {vo vr : Value} {W W' : World} (h : ParX c i s vo vr W) {v' : Value} {x : Rc} (ho : W'.ownsRow c.w0.heap.size 45 4 v' (s.out.length + 1) (recs s.out ++ recC x)) (hg : W.grownBy W' vo.ownBlock) :
    ParX c i { s with out := s.out ++ [x] } v' vr (W'.setCell ⟨c.B, 7, none⟩ v') := by
  have hp := h.p.kept hg (own_ne2 h.p h.o (by decide))
  have hr := h.r.kept hg (own_ne2 h.r h.o (by decide))
  refine ⟨own_set hp 7 v', ?_, own_set_other hr hp (by decide) 7 v', (h.g.kept hg (h.g.ne_row h.o)).setCell h.map_ne.1 v', (h.k.kept hg (h.k.ne_row h.o)).setCell h.map_ne.2 v', (h.b.grown hg h.b.size (fun k hk => (h.o.lt k hk).1)).setCell h.lo.1 v', (h.kp.trans (.grown h.o (.inl rfl) hg)).trans (.setCell _ _ _ _)⟩
  have := own_set_other ho hp (by decide) 7 v'
  rw [← recs_snoc] at this
  simpa using this
/-- a problem is added -/
theorem ParX.addR {c : PC} {i : Int} {s : PS} {vo vr : Value} {W W' : World} (h : ParX c i s vo vr W) {v' : Value} {x : Pb} (ho : W'.ownsRow c.w0.heap.size 42 4 v' (s.wrong.length + 1) (prbs s.wrong ++ prbC x)) (hg : W.grownBy W' vr.ownBlock) :
    ParX c i { s with wrong := s.wrong ++ [x] } vo v' (W'.setCell ⟨c.B, 8, none⟩ v') := by
  have hp := h.p.kept hg (own_ne2 h.p h.r (by decide))
  have hr := h.o.kept hg (own_ne2 h.o h.r (by decide))
  refine ⟨own_set hp 8 v', own_set_other hr hp (by decide) 8 v', ?_, (h.g.kept hg (h.g.ne_row h.r)).setCell h.map_ne.1 v', (h.k.kept hg (h.k.ne_row h.r)).setCell h.map_ne.2 v', (h.b.grown hg h.b.size (fun k hk => (h.r.lt k hk).1)).setCell h.lo.1 v', (h.kp.trans (.grown h.r (.inr rfl) hg)).trans (.setCell _ _ _ _)⟩
  have := own_set_other ho hp (by decide) 8 v'
  rw [← prbs_snoc] at this
  simpa using this
/-- the same parser, seen from a later world on -/
def PC.from (c : PC) (V : World) : PC := { c with wk := V }
theorem ParX.start {c : PC} {i : Int} {s : PS} {vo vr : Value} {W : World} (h : ParX c i s vo vr W) (V : World) (hV : KeepP c.B V W) : ParX (c.from V) i s vo vr W := ⟨h.p, h.o, h.r, h.g, h.k, h.b, hV⟩
theorem ParX.back {c : PC} {i : Int} {s : PS} {vo vr : Value} {V W : World} (h : ParX (c.from V) i s vo vr W) (hV : KeepP c.B c.wk V) : ParX c i s vo vr W := ⟨h.p, h.o, h.r, h.g, h.k, h.b, hV.trans h.kp⟩
def PPost (c : PC) (i : Int) (s : PS) (e : Ending) (w' : World) : Prop := e = .returned (.tuple #[]) ∧ ∃ vo vr, ParX c i s vo vr w'
end Go.Proofs.YtgnkjcdkfcikeaaGreatDoor
