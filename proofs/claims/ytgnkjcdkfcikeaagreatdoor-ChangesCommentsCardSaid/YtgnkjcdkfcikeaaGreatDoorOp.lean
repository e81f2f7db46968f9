/- Arguments that came in: slices of records, of words, of declared variables; their reach. -/
import Derived.Test.YtgnkjcdkfcikeaaGreatDoorPs
import Derived.Deep.Slices
import Derived.Deep.Fields
import Derived.ChangeSame
import Derived.SizedLaws
import Derived.Lib.SmallJoins
namespace Go.Proofs.YtgnkjcdkfcikeaaGreatDoor
open Go.Joins Go.ChangeShapes Go.WideShapes Go.RowKit Go.Deep
set_option linter.unusedSimpArgs false

theorem spot_none {w : World} {a : Addr} {v : Value} (h : w.cell? a = some v) : a.spot = none := by
  unfold World.cell? at h
  split at h
  · split at h
    · cases h
    · rename_i h1; simpa using h1
  · cases h
theorem weightsAll_mem {H : Type} {P : Program} {e : TypeId} : ∀ {l : List (DataW H)} {d : DataW H}, d ∈ l → ∀ n ∈ d.weights P e, n ∈ DataW.weightsAll P e l
  | x :: r, d, h, n, hn => by
    unfold DataW.weightsAll
    rcases List.mem_cons.1 h with rfl | h
    · exact List.mem_append.2 (.inl hn)
    · exact List.mem_append.2 (.inr (weightsAll_mem h n hn))
theorem flat_len {T : Type} {enc : T → List Value} {k : Nat} (henc : ∀ x, (enc x).length = k) : ∀ l : List T, (l.flatMap enc).length = k * l.length
  | [] => rfl
  | x :: l => by rw [List.flatMap_cons, List.length_append, henc, flat_len henc l, List.length_cons, Nat.mul_add]; omega
theorem list_gen {T : Type} {enc : T → List Value} {k : Nat} (henc : ∀ x, (enc x).length = k) {Q : T → Prop} {w : World} {a : Addr} : ∀ {m : Nat}, (∀ i, i < m → ∃ c : T, Q c ∧ ∀ (j : Nat) (u : Value), (enc c)[j]? = some u → w.cell? (a.add (i * k + j)) = some u) →
    ∃ l : List T, l.length = m ∧ (∀ c ∈ l, Q c) ∧ ∀ (j : Nat) (u : Value), (l.flatMap enc)[j]? = some u → w.cell? (a.add j) = some u
  | 0, _ => ⟨[], rfl, by simp, fun j u h => by simp at h⟩
  | m + 1, h => by
    obtain ⟨l, hl, hq, hc⟩ := list_gen henc (m := m) fun i hi => h i (by omega)
    obtain ⟨c, h0, h1⟩ := h m (by omega)
    have hf := flat_len henc l
    refine ⟨l ++ [c], by simp [hl], fun x hx => ?_, fun j u hj => ?_⟩
    · rcases List.mem_append.1 hx with hx | hx
      · exact hq x hx
      · rw [List.mem_singleton] at hx
        subst hx
        exact h0
    · rw [List.flatMap_append] at hj
      by_cases hlt : j < (l.flatMap enc).length
      · rw [List.getElem?_append_left hlt] at hj
        exact hc j u hj
      · rw [List.getElem?_append_right (by omega)] at hj
        have := h1 (j - (l.flatMap enc).length) u (by simpa using hj)
        rwa [show m * k + (j - (l.flatMap enc).length) = j by rw [hf, hl, Nat.mul_comm m k]; rw [hf, hl] at hlt; omega] at this
section
variable {H : Type} {enc : TypeId × Value → H} {P : Program} {w : World} {base : Nat} {spare : Nat → Bool} {held : Bool}
theorem open_gen {T : Type} {encT : T → List Value} {k : Nat} (henc : ∀ x, (encT x).length = k) (hk0 : 0 < k) {Q : T → Prop} {t e : TypeId} (ht : P.underlying t = some (.slice e)) (hk : P.cellsOf e = k)
    (hel : ∀ (n : Nat) (cs' : List Value) (y : DataW H × List MemPlace), cs'.length = k → DataW.trod enc P w base spare held n e cs' = some y → (∀ m ∈ y.1.weights P e, m ≤ reachBytes) → ∃ c : T, cs' = encT c ∧ Q c)
    {fuel : Nat} {cs : List Value} {x : DataW H × List MemPlace} (h : DataW.trod enc P w base spare held fuel t cs = some x) (hz : ∀ m ∈ x.1.weights P t, m ≤ reachBytes) :
    ∃ (v : Value) (l : List T), cs = [v] ∧ SlR w v l.length (l.flatMap encT) ∧ ∀ c ∈ l, Q c := by
  rcases open_slice ht h with ⟨rfl, -⟩ | ⟨a, len, cap, m, n, D, Pl, rfl, hb, hl, hm, hmm, rfl, hi⟩
  · exact ⟨_, [], rfl, SlR.nil _, by simp⟩
  · have hlm : len ≤ m := by rw [hmm]; split <;> omega
    obtain ⟨l, hll, hq, hc⟩ := list_gen henc (Q := Q) (w := w) (a := a) (m := len) fun i him => by
      obtain ⟨cs', hcs, htr⟩ := hi i (by omega)
      rw [hk] at hcs
      obtain ⟨-, hcl, hat⟩ := World.cells?_some hcs
      obtain ⟨c, rfl, hqc⟩ := hel n cs' _ hcl htr fun q hq => hz q (by
        unfold DataW.weights
        rw [ht]
        refine List.mem_cons_of_mem _ (List.mem_append.2 (.inl (weightsAll_mem (d := D i) ?_ q hq)))
        exact List.mem_map.2 ⟨i, List.mem_range.2 him, rfl⟩)
      refine ⟨c, hqc, fun j u hj => ?_⟩
      have hjk : j < k := by have := (List.getElem?_eq_some_iff.1 hj).1; rwa [hcl] at this
      rw [← Go.Deep.add_add, hat j hjk, hj]
    subst hll
    refine ⟨_, l, rfl, ⟨some a, cap, rfl, hl, hm, fun h => by simp at h, fun hn => ?_⟩, hq⟩
    have hpos : 0 < (l.flatMap encT).length := by rw [flat_len henc]; exact Nat.mul_pos hk0 (by omega)
    have hsp : a.spot = none := by
      have h0 := hc 0 _ (List.getElem?_eq_getElem hpos)
      have := spot_none h0
      simpa [Addr.add] using this
    obtain ⟨b, o, sp⟩ := a
    simp only at hsp
    subst hsp
    exact ⟨b, o, rfl, fun j u hj => by have := hc j u hj; rwa [addr_add] at this⟩
/-- a field of a struct -/
theorem fld {t : TypeId} {fs : Array Field} {n : Nat} {cs : List Value} {y : DataW H × List MemPlace} (hu : P.underlying t = some (.struct fs)) (h : DataW.trod enc P w base spare held n t cs = some y) (hz : ∀ m ∈ y.1.weights P t, m ≤ reachBytes)
    (i : Nat) {f : Field} (hi : fs[i]? = some f) {k o : Nat} (hk : P.cellsOf f.type = k) (ho : f.offset = o) : ∃ (n' : Nat) (z : DataW H × List MemPlace), DataW.trod enc P w base spare held n' f.type ((cs.drop o).take k) = some z ∧ ∀ m ∈ z.1.weights P f.type, m ≤ reachBytes := by
  obtain ⟨xs, n', -, rfl, -, hxl, hf⟩ := DataW.trod_struct hu h
  have hlt : i < xs.length := by rw [hxl]; exact (Array.getElem?_eq_some_iff.1 hi).1
  have h1 := hf i f hi
  rw [hk, ho, List.getElem?_eq_getElem hlt] at h1
  refine ⟨n', xs[i], h1, fun m hm => hz m ?_⟩
  unfold DataW.weights
  rw [hu]
  refine DataW.weights_mem_each (j := i) (t := f.type) (d := xs[i].1) ?_ ?_ m hm
  · rw [List.getElem?_map, Array.getElem?_toList, hi]; rfl
  · rw [List.getElem?_map, List.getElem?_eq_getElem hlt]; rfl
end
section
variable {H : Type} {enc : TypeId × Value → H} {w : World} {base : Nat} {spare : Nat → Bool} {held : Bool} {n : Nat} {v : Value} {z : DataW H × List MemPlace}
theorem leaf_int (h : DataW.trod enc Tryz.prog w base spare held n 3 [v] = some z) : ∃ x : Int, v = .int .i64 x := by
  obtain ⟨x, e, -⟩ := DataW.trod_int Tryz.underlying3 h
  injection e with e
  exact ⟨x, e⟩
theorem leaf_err (h : DataW.trod enc Tryz.prog w base spare held n 40 [v] = some z) : ∃ x : Int, v = .int .i64 x := by
  obtain ⟨x, e, -⟩ := DataW.trod_int Tryz.underlying40 h
  injection e with e
  exact ⟨x, e⟩
theorem leaf_bool (h : DataW.trod enc Tryz.prog w base spare held n 4 [v] = some z) : ∃ x : Bool, v = .bool x := by
  obtain ⟨x, e, -⟩ := DataW.trod_bool Tryz.underlying4 h
  injection e with e
  exact ⟨x, e⟩
theorem leaf_str (h : DataW.trod enc Tryz.prog w base spare held n 9 [v] = some z) (hz : ∀ m ∈ z.1.weights Tryz.prog 9, m ≤ reachBytes) : ∃ x : Bs, v = .string (bsB x) ∧ x.length ≤ 140737488351232 := by
  obtain ⟨x, e, rfl, -⟩ := DataW.trod_string Tryz.underlying9 h
  injection e with e
  refine ⟨x.data.toList, by rw [bsB_of]; exact e, ?_⟩
  exact hz _ (by unfold DataW.weights; exact List.mem_singleton.2 rfl)
end
theorem four {cs : List Value} (h : cs.length = 4) : ∃ a b c d, cs = [a, b, c, d] := by
  match cs, h with
  | [a, b, c, d], _ => exact ⟨a, b, c, d, rfl⟩
theorem ten {cs : List Value} (h : cs.length = 10) : ∃ a b c d e f g i j k, cs = [a, b, c, d, e, f, g, i, j, k] := by
  match cs, h with
  | [a, b, c, d, e, f, g, i, j, k], _ => exact ⟨a, b, c, d, e, f, g, i, j, k, rfl⟩
section
variable {H : Type} {enc : TypeId × Value → H} {w : World} {base : Nat} {spare : Nat → Bool} {held : Bool} {fuel : Nat} {cs : List Value} {x : DataW H × List MemPlace}
theorem open_recs (h : DataW.trod enc Tryz.prog w base spare held fuel 22 cs = some x) (hz : ∀ m ∈ x.1.weights Tryz.prog 22, m ≤ reachBytes) :
    ∃ (v : Value) (l : List Rc), cs = [v] ∧ SlR w v l.length (recs l) ∧ ∀ r ∈ l, r.2.2.1.length ≤ 140737488351232 ∧ r.2.2.2.length ≤ 140737488351232 :=
  open_gen (encT := recC) (k := 4) (fun _ => rfl) (by decide) (Q := fun r : Rc => r.2.2.1.length ≤ 140737488351232 ∧ r.2.2.2.length ≤ 140737488351232) Tryz.underlying22 (by kernel_rfl) (fun n cs' y hl ht hy => by
    obtain ⟨a, b, c, d, rfl⟩ := four hl
    obtain ⟨n0, z0, h0, -⟩ := fld Tryz.underlying45 ht hy 0 rfl (show Tryz.prog.cellsOf 3 = 1 by kernel_rfl) rfl
    obtain ⟨n1, z1, h1, -⟩ := fld Tryz.underlying45 ht hy 1 rfl (show Tryz.prog.cellsOf 3 = 1 by kernel_rfl) rfl
    obtain ⟨n2, z2, h2, w2⟩ := fld Tryz.underlying45 ht hy 2 rfl (show Tryz.prog.cellsOf 9 = 1 by kernel_rfl) rfl
    obtain ⟨n3, z3, h3, w3⟩ := fld Tryz.underlying45 ht hy 3 rfl (show Tryz.prog.cellsOf 9 = 1 by kernel_rfl) rfl
    obtain ⟨x0, rfl⟩ := leaf_int h0
    obtain ⟨x1, rfl⟩ := leaf_int h1
    obtain ⟨x2, rfl, q2⟩ := leaf_str h2 w2
    obtain ⟨x3, rfl, q3⟩ := leaf_str h3 w3
    exact ⟨(x0, x1, x2, x3), rfl, q2, q3⟩) h hz
theorem open_wds (h : DataW.trod enc Tryz.prog w base spare held fuel 32 cs = some x) (hz : ∀ m ∈ x.1.weights Tryz.prog 32, m ≤ reachBytes) :
    ∃ (v : Value) (l : List Wd), cs = [v] ∧ SlR w v l.length (wds l) ∧ ∀ r ∈ l, r.1.length ≤ 140737488351232 :=
  open_gen (encT := wdC) (k := 4) (fun _ => rfl) (by decide) (Q := fun r : Wd => r.1.length ≤ 140737488351232) Tryz.underlying32 (by kernel_rfl) (fun n cs' y hl ht hy => by
    obtain ⟨a, b, c, d, rfl⟩ := four hl
    obtain ⟨n0, z0, h0, w0⟩ := fld Tryz.underlying39 ht hy 0 rfl (show Tryz.prog.cellsOf 9 = 1 by kernel_rfl) rfl
    obtain ⟨n1, z1, h1, -⟩ := fld Tryz.underlying39 ht hy 1 rfl (show Tryz.prog.cellsOf 3 = 1 by kernel_rfl) rfl
    obtain ⟨n2, z2, h2, -⟩ := fld Tryz.underlying39 ht hy 2 rfl (show Tryz.prog.cellsOf 3 = 1 by kernel_rfl) rfl
    obtain ⟨n3, z3, h3, -⟩ := fld Tryz.underlying39 ht hy 3 rfl (show Tryz.prog.cellsOf 3 = 1 by kernel_rfl) rfl
    obtain ⟨x0, rfl, q0⟩ := leaf_str h0 w0
    obtain ⟨x1, rfl⟩ := leaf_int h1
    obtain ⟨x2, rfl⟩ := leaf_int h2
    obtain ⟨x3, rfl⟩ := leaf_int h3
    exact ⟨(x0, x1, x2, x3), rfl, q0⟩) h hz
theorem open_dcls (h : DataW.trod enc Tryz.prog w base spare held fuel 23 cs = some x) (hz : ∀ m ∈ x.1.weights Tryz.prog 23, m ≤ reachBytes) :
    ∃ (v : Value) (l : List Dcl), cs = [v] ∧ SlR w v l.length (dcls l) ∧ ∀ r ∈ l, r.nm.length ≤ 140737488351232 ∧ r.code.length ≤ 140737488351232 :=
  open_gen (encT := dclC) (k := 10) (fun _ => rfl) (by decide) (Q := fun r : Dcl => r.nm.length ≤ 140737488351232 ∧ r.code.length ≤ 140737488351232) Tryz.underlying23 (by kernel_rfl) (fun n cs' y hl ht hy => by
    obtain ⟨a, b, c, d, e, f, g, i, j, k, rfl⟩ := ten hl
    obtain ⟨n0, z0, h0, w0⟩ := fld Tryz.underlying55 ht hy 0 rfl (show Tryz.prog.cellsOf 53 = 7 by kernel_rfl) rfl
    obtain ⟨m0, y0, k0, s0⟩ := fld Tryz.underlying53 h0 w0 0 rfl (show Tryz.prog.cellsOf 9 = 1 by kernel_rfl) rfl
    obtain ⟨m1, y1, k1, -⟩ := fld Tryz.underlying53 h0 w0 1 rfl (show Tryz.prog.cellsOf 3 = 1 by kernel_rfl) rfl
    obtain ⟨m2, y2, k2, -⟩ := fld Tryz.underlying53 h0 w0 2 rfl (show Tryz.prog.cellsOf 3 = 1 by kernel_rfl) rfl
    obtain ⟨m3, y3, k3, -⟩ := fld Tryz.underlying53 h0 w0 3 rfl (show Tryz.prog.cellsOf 3 = 1 by kernel_rfl) rfl
    obtain ⟨m4, y4, k4, -⟩ := fld Tryz.underlying53 h0 w0 4 rfl (show Tryz.prog.cellsOf 4 = 1 by kernel_rfl) rfl
    obtain ⟨m5, y5, k5, -⟩ := fld Tryz.underlying53 h0 w0 5 rfl (show Tryz.prog.cellsOf 3 = 1 by kernel_rfl) rfl
    obtain ⟨m6, y6, k6, -⟩ := fld Tryz.underlying53 h0 w0 6 rfl (show Tryz.prog.cellsOf 3 = 1 by kernel_rfl) rfl
    obtain ⟨n1, z1, h1, w1⟩ := fld Tryz.underlying55 ht hy 1 rfl (show Tryz.prog.cellsOf 9 = 1 by kernel_rfl) rfl
    obtain ⟨n2, z2, h2, -⟩ := fld Tryz.underlying55 ht hy 2 rfl (show Tryz.prog.cellsOf 3 = 1 by kernel_rfl) rfl
    obtain ⟨n3, z3, h3, -⟩ := fld Tryz.underlying55 ht hy 3 rfl (show Tryz.prog.cellsOf 3 = 1 by kernel_rfl) rfl
    obtain ⟨x0, rfl, q0⟩ := leaf_str k0 s0
    obtain ⟨x1, rfl⟩ := leaf_int k1
    obtain ⟨x2, rfl⟩ := leaf_int k2
    obtain ⟨x3, rfl⟩ := leaf_int k3
    obtain ⟨x4, rfl⟩ := leaf_bool k4
    obtain ⟨x5, rfl⟩ := leaf_int k5
    obtain ⟨x6, rfl⟩ := leaf_int k6
    obtain ⟨x7, rfl, q7⟩ := leaf_str h1 w1
    obtain ⟨x8, rfl⟩ := leaf_int h2
    obtain ⟨x9, rfl⟩ := leaf_int h3
    exact ⟨⟨x0, x1, x2, x3, x4, x5, x6, x7, x8, x9⟩, rfl, q0, q7⟩) h hz
end
end Go.Proofs.YtgnkjcdkfcikeaaGreatDoor
