import Derived.Test.YtbiadennhnokhaaGreatDoorZ39
import Derived.Test.YtbiadennhnokhaaGreatDoorZ14
/- Arguments that came in: a trace; its texts are within reach, its numbers are numbers. -/
namespace Go.Proofs.YtbiadennhnokhaaGreatDoor
open Go.Joins Go.ChangeShapes Go.WideShapes Go.RowKit Go.Deep
set_option linter.unusedSimpArgs false

/-- a number that came in -/
abbrev wfI (x : Int) : Prop := (Lit.int .i64 x).wf = true
section
variable {H : Type} {enc : TypeId × Value → H} {w : World} {base : Nat} {spare : Nat → Bool} {held : Bool} {n : Nat} {v : Value} {z : DataW H × List MemPlace}
theorem leaf_intw (h : DataW.trod enc Tryz.prog w base spare held n 3 [v] = some z) : ∃ x : Int, v = .int .i64 x ∧ wfI x := by
  obtain ⟨x, e, -, hw⟩ := DataW.trod_int Tryz.underlying3 h
  injection e with e
  exact ⟨x, e, hw⟩
end
theorem three {cs : List Value} (h : cs.length = 3) : ∃ a b c, cs = [a, b, c] := by
  match cs, h with
  | [a, b, c], _ => exact ⟨a, b, c, rfl⟩
theorem two {cs : List Value} (h : cs.length = 2) : ∃ a b, cs = [a, b] := by
  match cs, h with
  | [a, b], _ => exact ⟨a, b, rfl⟩
theorem seven {cs : List Value} (h : cs.length = 7) : ∃ a b c d e f g, cs = [a, b, c, d, e, f, g] := by
  match cs, h with
  | [a, b, c, d, e, f, g], _ => exact ⟨a, b, c, d, e, f, g, rfl⟩
theorem nine {cs : List Value} (h : cs.length = 9) : ∃ a b c d e f g i j, cs = [a, b, c, d, e, f, g, i, j] := by
  match cs, h with
  | [a, b, c, d, e, f, g, i, j], _ => exact ⟨a, b, c, d, e, f, g, i, j, rfl⟩
section
variable {H : Type} {enc : TypeId × Value → H} {w : World} {base : Nat} {spare : Nat → Bool} {held : Bool} {fuel : Nat} {cs : List Value} {x : DataW H × List MemPlace}
theorem open_scs (h : DataW.trod enc Tryz.prog w base spare held fuel 22 cs = some x) (hz : ∀ m ∈ x.1.weights Tryz.prog 22, m ≤ reachBytes) :
    ∃ (v : Value) (l : List Sc), cs = [v] ∧ SlR w v l.length (scs l) ∧ ∀ r ∈ l, r.1.length ≤ 140737488351232 ∧ wfI r.2.1 ∧ wfI r.2.2 :=
  open_gen (encT := scC) (k := 3) (fun _ => rfl) (by decide) (Q := fun r : Sc => r.1.length ≤ 140737488351232 ∧ wfI r.2.1 ∧ wfI r.2.2) Tryz.underlying22 (by kernel_rfl) (fun n cs' y hl ht hy => by
    obtain ⟨a, b, c, rfl⟩ := three hl
    obtain ⟨n0, z0, h0, w0⟩ := fld Tryz.underlying55 ht hy 0 rfl (show Tryz.prog.cellsOf 9 = 1 by kernel_rfl) rfl
    obtain ⟨n1, z1, h1, -⟩ := fld Tryz.underlying55 ht hy 1 rfl (show Tryz.prog.cellsOf 3 = 1 by kernel_rfl) rfl
    obtain ⟨n2, z2, h2, -⟩ := fld Tryz.underlying55 ht hy 2 rfl (show Tryz.prog.cellsOf 3 = 1 by kernel_rfl) rfl
    obtain ⟨x0, rfl, q0⟩ := leaf_str h0 w0
    obtain ⟨x1, rfl, q1⟩ := leaf_intw h1
    obtain ⟨x2, rfl, q2⟩ := leaf_intw h2
    exact ⟨(x0, x1, x2), rfl, q0, q1, q2⟩) h hz
theorem open_vrs (h : DataW.trod enc Tryz.prog w base spare held fuel 23 cs = some x) (hz : ∀ m ∈ x.1.weights Tryz.prog 23, m ≤ reachBytes) :
    ∃ (v : Value) (l : List Vr), cs = [v] ∧ SlR w v l.length (vrs l) ∧ ∀ r ∈ l, r.nm.length ≤ 140737488351232 ∧ wfI r.ty ∧ wfI r.sc ∧ wfI r.sg ∧ wfI r.mb ∧ wfI r.lb :=
  open_gen (encT := vrC) (k := 7) (fun _ => rfl) (by decide) (Q := fun r : Vr => r.nm.length ≤ 140737488351232 ∧ wfI r.ty ∧ wfI r.sc ∧ wfI r.sg ∧ wfI r.mb ∧ wfI r.lb) Tryz.underlying23 (by kernel_rfl) (fun n cs' y hl ht hy => by
    obtain ⟨a, b, c, d, e, f, g, rfl⟩ := seven hl
    obtain ⟨n0, z0, h0, w0⟩ := fld Tryz.underlying42 ht hy 0 rfl (show Tryz.prog.cellsOf 9 = 1 by kernel_rfl) rfl
    obtain ⟨n1, z1, h1, -⟩ := fld Tryz.underlying42 ht hy 1 rfl (show Tryz.prog.cellsOf 3 = 1 by kernel_rfl) rfl
    obtain ⟨n2, z2, h2, -⟩ := fld Tryz.underlying42 ht hy 2 rfl (show Tryz.prog.cellsOf 3 = 1 by kernel_rfl) rfl
    obtain ⟨n3, z3, h3, -⟩ := fld Tryz.underlying42 ht hy 3 rfl (show Tryz.prog.cellsOf 3 = 1 by kernel_rfl) rfl
    obtain ⟨n4, z4, h4, -⟩ := fld Tryz.underlying42 ht hy 4 rfl (show Tryz.prog.cellsOf 4 = 1 by kernel_rfl) rfl
    obtain ⟨n5, z5, h5, -⟩ := fld Tryz.underlying42 ht hy 5 rfl (show Tryz.prog.cellsOf 3 = 1 by kernel_rfl) rfl
    obtain ⟨n6, z6, h6, -⟩ := fld Tryz.underlying42 ht hy 6 rfl (show Tryz.prog.cellsOf 3 = 1 by kernel_rfl) rfl
    obtain ⟨x0, rfl, q0⟩ := leaf_str h0 w0
    obtain ⟨x1, rfl, q1⟩ := leaf_intw h1
    obtain ⟨x2, rfl, q2⟩ := leaf_intw h2
    obtain ⟨x3, rfl, q3⟩ := leaf_intw h3
    obtain ⟨x4, rfl⟩ := leaf_bool h4
    obtain ⟨x5, rfl, q5⟩ := leaf_intw h5
    obtain ⟨x6, rfl, q6⟩ := leaf_intw h6
    exact ⟨⟨x0, x1, x2, x3, x4, x5, x6⟩, rfl, q0, q1, q2, q3, q5, q6⟩) h hz
theorem open_gps (h : DataW.trod enc Tryz.prog w base spare held fuel 25 cs = some x) (hz : ∀ m ∈ x.1.weights Tryz.prog 25, m ≤ reachBytes) :
    ∃ (v : Value) (l : List Gp), cs = [v] ∧ SlR w v l.length (gps l) ∧ ∀ r ∈ l, wfI r.1 ∧ wfI r.2 :=
  open_gen (encT := gpC) (k := 2) (fun _ => rfl) (by decide) (Q := fun r : Gp => wfI r.1 ∧ wfI r.2) Tryz.underlying25 (by kernel_rfl) (fun n cs' y hl ht hy => by
    obtain ⟨a, b, rfl⟩ := two hl
    obtain ⟨n0, z0, h0, -⟩ := fld Tryz.underlying57 ht hy 0 rfl (show Tryz.prog.cellsOf 3 = 1 by kernel_rfl) rfl
    obtain ⟨n1, z1, h1, -⟩ := fld Tryz.underlying57 ht hy 1 rfl (show Tryz.prog.cellsOf 3 = 1 by kernel_rfl) rfl
    obtain ⟨x0, rfl, q0⟩ := leaf_intw h0
    obtain ⟨x1, rfl, q1⟩ := leaf_intw h1
    exact ⟨(x0, x1), rfl, q0, q1⟩) h hz
theorem open_chw (h : DataW.trod enc Tryz.prog w base spare held fuel 43 cs = some x) (hz : ∀ m ∈ x.1.weights Tryz.prog 43, m ≤ reachBytes) :
    ∃ (v : Value) (l : List Ch), cs = [v] ∧ SlR w v l.length (chs l) ∧ ∀ r ∈ l, wfI r.1 ∧ r.2.size ≤ 140737488351232 :=
  open_gen (encT := encC) (k := 2) (fun _ => rfl) (by decide) (Q := fun r : Ch => wfI r.1 ∧ r.2.size ≤ 140737488351232) Tryz.underlying43 (by kernel_rfl) (fun n cs' y hl ht hy => by
    obtain ⟨a, b, rfl⟩ := two hl
    obtain ⟨n0, z0, h0, -⟩ := fld Tryz.underlying53 ht hy 0 rfl (show Tryz.prog.cellsOf 3 = 1 by kernel_rfl) rfl
    obtain ⟨n1, z1, h1, w1⟩ := fld Tryz.underlying53 ht hy 1 rfl (show Tryz.prog.cellsOf 9 = 1 by kernel_rfl) rfl
    obtain ⟨x0, rfl, q0⟩ := leaf_intw h0
    obtain ⟨x1, rfl, q1⟩ := leaf_str h1 w1
    exact ⟨(x0, bsB x1), rfl, q0, q1⟩) h hz
theorem open_sgw (h : DataW.trod enc Tryz.prog w base spare held fuel 24 cs = some x) (hz : ∀ m ∈ x.1.weights Tryz.prog 24, m ≤ reachBytes) :
    ∃ (v : Value) (L : List (Sg × Value)), cs = [v] ∧ Sigs w v L ∧ ∀ r ∈ L, wfI r.1.1 ∧ wfI r.1.2.1 ∧ ∀ c ∈ r.1.2.2, wfI c.1 ∧ c.2.size ≤ 140737488351232 := by
  obtain ⟨v, L, rfl, hs, hq⟩ := open_gen (w := w) (encT := sgC) (k := 3) (fun _ => rfl) (by decide) (Q := fun r : Sg × Value => SlR w r.2 r.1.2.2.length (chs r.1.2.2) ∧ wfI r.1.1 ∧ wfI r.1.2.1 ∧ ∀ c ∈ r.1.2.2, wfI c.1 ∧ c.2.size ≤ 140737488351232) Tryz.underlying24 (by kernel_rfl) (fun n cs' y hl ht hy => by
    obtain ⟨a, b, c, rfl⟩ := three hl
    obtain ⟨n0, z0, h0, -⟩ := fld Tryz.underlying45 ht hy 0 rfl (show Tryz.prog.cellsOf 3 = 1 by kernel_rfl) rfl
    obtain ⟨n1, z1, h1, -⟩ := fld Tryz.underlying45 ht hy 1 rfl (show Tryz.prog.cellsOf 3 = 1 by kernel_rfl) rfl
    obtain ⟨n2, z2, h2, w2⟩ := fld Tryz.underlying45 ht hy 2 rfl (show Tryz.prog.cellsOf 43 = 1 by kernel_rfl) rfl
    obtain ⟨x0, rfl, q0⟩ := leaf_intw h0
    obtain ⟨x1, rfl, q1⟩ := leaf_intw h1
    obtain ⟨u, l, e2, hsl, q2⟩ := open_chw h2 w2
    injection e2 with e2 _
    subst e2
    exact ⟨((x0, x1, l), _), rfl, hsl, q0, q1, q2⟩) h hz
  exact ⟨v, L, rfl, ⟨hs, fun x hx => (hq x hx).1⟩, fun r hr => (hq r hr).2⟩
/-- a trace that came in -/
structure InT (t : Tr) : Prop where
  tx : t.dt.length ≤ 140737488351232 ∧ t.vn.length ≤ 140737488351232 ∧ t.cm.length ≤ 140737488351232
  i : wfI t.sc ∧ wfI t.en
  s : ∀ r ∈ t.S, r.1.length ≤ 140737488351232 ∧ wfI r.2.1 ∧ wfI r.2.2
  v : ∀ r ∈ t.V, r.nm.length ≤ 140737488351232 ∧ wfI r.ty ∧ wfI r.sc ∧ wfI r.sg ∧ wfI r.mb ∧ wfI r.lb
  g : ∀ r ∈ t.G, wfI r.1 ∧ wfI r.2.1 ∧ ∀ c ∈ r.2.2, wfI c.1 ∧ c.2.size ≤ 140737488351232
  p : ∀ r ∈ t.P, wfI r.1 ∧ wfI r.2
set_option maxRecDepth 100000 in
theorem open_tr (h : DataW.trod enc Tryz.prog w base spare held fuel 27 cs = some x) (hz : ∀ m ∈ x.1.weights Tryz.prog 27, m ≤ reachBytes) (hl : cs.length = 9) :
    ∃ (t : Tr) (p : TP), cs = [.int .i64 t.sc, .string (bsB t.dt), .string (bsB t.vn), .string (bsB t.cm), p.vs, p.vv, p.vg, p.vp, .int .i64 t.en] ∧ TrM w t p ∧ InT t := by
  obtain ⟨a, b, c, d, e, f, g, i, j, rfl⟩ := nine hl
  obtain ⟨n0, z0, h0, w0⟩ := fld Tryz.underlying27 h hz 0 rfl (show Tryz.prog.cellsOf 3 = 1 by kernel_rfl) rfl
  obtain ⟨n1, z1, h1, w1⟩ := fld Tryz.underlying27 h hz 1 rfl (show Tryz.prog.cellsOf 9 = 1 by kernel_rfl) rfl
  obtain ⟨n2, z2, h2, w2⟩ := fld Tryz.underlying27 h hz 2 rfl (show Tryz.prog.cellsOf 9 = 1 by kernel_rfl) rfl
  obtain ⟨n3, z3, h3, w3⟩ := fld Tryz.underlying27 h hz 3 rfl (show Tryz.prog.cellsOf 9 = 1 by kernel_rfl) rfl
  obtain ⟨n4, z4, h4, w4⟩ := fld Tryz.underlying27 h hz 4 rfl (show Tryz.prog.cellsOf 22 = 1 by kernel_rfl) rfl
  obtain ⟨n5, z5, h5, w5⟩ := fld Tryz.underlying27 h hz 5 rfl (show Tryz.prog.cellsOf 23 = 1 by kernel_rfl) rfl
  obtain ⟨n6, z6, h6, w6⟩ := fld Tryz.underlying27 h hz 6 rfl (show Tryz.prog.cellsOf 24 = 1 by kernel_rfl) rfl
  obtain ⟨n7, z7, h7, w7⟩ := fld Tryz.underlying27 h hz 7 rfl (show Tryz.prog.cellsOf 25 = 1 by kernel_rfl) rfl
  obtain ⟨n8, z8, h8, -⟩ := fld Tryz.underlying27 h hz 8 rfl (show Tryz.prog.cellsOf 3 = 1 by kernel_rfl) rfl
  obtain ⟨x0, rfl, q0⟩ := leaf_intw h0
  obtain ⟨x1, rfl, q1⟩ := leaf_str h1 w1
  obtain ⟨x2, rfl, q2⟩ := leaf_str h2 w2
  obtain ⟨x3, rfl, q3⟩ := leaf_str h3 w3
  obtain ⟨v4, l4, e4, s4, q4⟩ := open_scs h4 w4
  injection e4 with e4 _
  obtain ⟨v5, l5, e5, s5, q5⟩ := open_vrs h5 w5
  injection e5 with e5 _
  obtain ⟨v6, l6, e6, s6, q6⟩ := open_sgw h6 w6
  injection e6 with e6 _
  obtain ⟨v7, l7, e7, s7, q7⟩ := open_gps h7 w7
  injection e7 with e7 _
  obtain ⟨x8, rfl, q8⟩ := leaf_intw h8
  subst e4 e5 e6 e7
  exact ⟨⟨x0, x1, x2, x3, l4, l5, l6.map Prod.fst, l7, x8⟩, ⟨_, _, _, _, l6⟩, rfl, ⟨s4, s5, s6, s7, rfl⟩, ⟨q1, q2, q3⟩, ⟨q0, q8⟩, q4, q5, fun r hr => by
    obtain ⟨y, hy, rfl⟩ := List.mem_map.1 hr
    exact q6 y hy, q7⟩
set_option maxRecDepth 100000 in
/-- the argument itself -/
theorem arg_tr {base' : Nat} {v : Value} {d : DataW H} {ps : List MemPlace} (hk : Value.okWide Tryz.prog w .any base' 27 v) (h : DataW.Trod enc Tryz.prog w base spare held 27 v d ps) (hz : ∀ m ∈ d.weights Tryz.prog 27, m ≤ reachBytes) :
    ∃ (t : Tr) (p : TP), v = p.v t ∧ TrM w t p ∧ InT t := by
  obtain ⟨cs, rfl, hsz⟩ := okWide_struct Tryz.underlying27 hk
  obtain ⟨fuel, hf⟩ := h
  have hcl : (Value.agg cs).cells = cs := by simp [Value.cells]
  rw [hcl] at hf
  have hn : cs.toList.length = 9 := by
    rw [Array.length_toList, hsz]
    kernel_rfl
  obtain ⟨t, p, e, ht, hi⟩ := open_tr hf hz hn
  refine ⟨t, p, ?_, ht, hi⟩
  unfold TP.v
  exact congrArg Value.agg (Array.toList_inj.1 e)
end
end Go.Proofs.YtbiadennhnokhaaGreatDoor
