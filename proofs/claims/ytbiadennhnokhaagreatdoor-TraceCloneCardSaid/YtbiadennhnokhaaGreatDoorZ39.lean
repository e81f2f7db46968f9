import Derived.Test.YtbiadennhnokhaaGreatDoorZ38
import Derived.Handy
import Derived.Deep.RegionHeld3
import Derived.Deep.Cut
import Derived.Test.YtbiadennhnokhaaGreatDoorZ14
import Derived.Deep.Slices
import Derived.Deep.Fields
import Derived.ChangeSame
import Derived.SizedLaws
import Derived.Lib.SmallJoins
/- law23.awake. -/
namespace Go.Proofs.YtbiadennhnokhaaGreatDoor
open Go.RowKit
set_option linter.unusedSimpArgs false

def exB : Tr := ⟨0, [], [], [], [], [⟨[97], 17, -1, 0, false, 0, 0⟩], [(0, 1, [(1, ⟨#[48]⟩), (3, ⟨#[120]⟩), (5, ⟨#[49]⟩)])], [(3, 5)], 5⟩
theorem ex_build : buildF exT = (exB, 0) := Prod.ext (eqT_iff.1 (by decide +kernel)) (by decide +kernel)
theorem ex_validF : validF exB := build_again ex_build
theorem ex_valid : validB exB = true := validB_iff.2 ex_validF
theorem ex_val : srcVal exB 0 4 = (⟨#[120]⟩, 0) := by decide +kernel
theorem ex_times : timesL exB.G = [1, 3, 5] := by decide +kernel
theorem ex_off : inP exB.P 4 = true := by decide +kernel
theorem ex_fit : FB exT ∧ ∀ x ∈ exT.V, (Lit.int .i64 x.sg).wf = true := by
  refine ⟨⟨by decide, by decide, ⟨by decide, by decide⟩, ?_, by decide⟩, by decide⟩
  intro s hs
  rcases List.mem_cons.1 hs with rfl | hs
  · exact ⟨⟨by decide, by decide⟩, by decide⟩
  · obtain rfl := List.mem_singleton.1 hs
    exact ⟨⟨by decide, by decide⟩, by decide⟩
set_option maxHeartbeats 3200000 in
set_option maxRecDepth 100000 in
theorem law_awake23 (w : World) (hg : Glob w) (hm : Glm w) :
    Calls Tryz.prog 12 #[] w fun e w' => e = .returned (.bool true) ∧ Below w.heap.size w w' := by
  have HG := Lib.hid hg
  have HM := Lib.hid hm
  have HVF := Lib.hid (valid_fit ex_validF)
  clear hg hm
  go_enter Tryz.func12, Tryz.ntmps12
  go_wp2_with fail
  refine (law_example w).mono ?_
  rintro e w1 ⟨p, rfl, ht, hb1⟩
  obtain ⟨a1, k1, a2, k2, a3, k3, a4, k4, e, -⟩ := ht.open
  have hbd := tr_Build exT p w1 ht ex_fit.1 (HG.out.below hb1) (HM.out.below hb1) ex_fit.2
  rw [ex_build] at hbd
  dsimp only at hbd
  rw [e] at hbd ⊢
  have HBD := Lib.hid hbd
  have HB1 := Lib.hid hb1
  clear hb1 hbd ht e
  go_wp2_with fail
  refine HBD.out.mono ?_
  rintro e w2 ⟨q, rfl, hq, hb2⟩
  obtain ⟨x1, y1, x2, y2, x3, y3, x4, y4, e, -, -, e3, e4, -⟩ := hq.open
  rw [e]
  have HQE := Lib.hid e
  have HB2 := Lib.hid (ext_trans HB1.out hb2)
  have hal := below_new w2 (boxT exB x1 x2 x3 x4 y1 y2 y3 y4) 27
  have HB3 := Lib.hid (ext_trans HB2.out hal)
  have hq3 := hq.below hal
  have HY3 := Lib.hid (Bx.new w2 (boxT exB x1 x2 x3 x4 y1 y2 y3 y4) 27)
  have hsg := hq3.g
  have hlen : q.M.length = 1 := hq3.len
  have hmap := hq3.m
  rw [e3] at hsg
  obtain ⟨b, o, rfl, d0, d1, d2, hd⟩ := hsg.at (j := 0) (by omega)
  have hM0 : q.M[0].1 = (0, 1, [(1, ⟨#[48]⟩), (3, ⟨#[120]⟩), (5, ⟨#[49]⟩)]) := by
    have : (q.M.map Prod.fst)[0]? = exB.G[0]? := by rw [hmap]
    rw [List.getElem?_map, List.getElem?_eq_getElem (by omega)] at this
    exact Option.some.inj this
  rw [hM0] at d0 d1 hd
  obtain ⟨xa, xc, exv, -, -⟩ := hd.shape
  rw [exv] at d2 hd
  obtain ⟨b2, o2, rfl, f0, f1⟩ := hd.ch (l := [(1, ⟨#[48]⟩), (3, ⟨#[120]⟩), (5, ⟨#[49]⟩)]) (j := 1) (by decide)
  have HQ3 := Lib.hid hq3
  clear hb2 hq hal hq3 hsg hlen hmap e HBD hM0 exv hd d0 d1
  go_wp2_with fail
  generalize w2.alloc (.cells (boxT exB x1 x2 (some ⟨b, o, none⟩) x4 y1 y2 y3 y4) 27) = w3 at *
  obtain ⟨q0, q1, q2, q3, q4, q5, q6, q7, q8⟩ := HY3.out.nine
  have hso := tr_Source exB q w3 HQ3.out HVF.out.fb (by decide) (HG.out.below HB3.out) (HM.out.below HB3.out) HVF.out.sg
  rw [show srcT exB = exB by unfold srcT; rw [if_pos ex_valid], HQE.out] at hso
  have HSO := Lib.hid hso
  clear hso
  refine HSO.out.mono ?_
  rintro e w4 ⟨r, rfl, hr, hb4⟩
  obtain ⟨u1, v1, u2, v2, u3, v3, u4, v4, e, -⟩ := hr.open
  have hva := src_Value exB r 0 4 w4 hr (SrcB.of ex_validF) (HG.out.below (ext_trans HB3.out hb4))
  rw [ex_val] at hva
  dsimp only at hva
  rw [e] at hva ⊢
  have HVA := Lib.hid hva
  have HB4 := Lib.hid (ext_trans HB3.out hb4)
  have HY4 := Lib.hid (HY3.out.step hb4)
  have HQ4 := Lib.hid (HQ3.out.below hb4)
  clear hva hb4 hr e HSO q0 q1 q2 q3 q4 q5 q6 q7 q8 d2 f0 f1 HQ3
  go_wp2_with fail
  refine HVA.out.mono ?_
  rintro e w5 ⟨rfl, hb5⟩
  have HB5 := Lib.hid (ext_trans HB4.out hb5)
  have HY5 := Lib.hid (HY4.out.step hb5)
  have HQ5 := Lib.hid (HQ4.out.below hb5)
  clear hb5 HVA
  obtain ⟨q0, q1, q2, q3, q4, q5, q6, q7, q8⟩ := HY5.out.nine
  have hCV := fun W (hW : Below w5.heap.size w5 W) => tr_Valid exB q W (HQ5.out.below hW) HVF.out.fb (HG.out.below (ext_trans HB5.out hW)) (HM.out.below (ext_trans HB5.out hW)) HVF.out.sg
  have hCC := fun W (hW : Below w5.heap.size w5 W) => tr_Clone exB q W (HQ5.out.below hW) HVF.out.ft
  have hCT := fun W (hW : Below w5.heap.size w5 W) => tr_Times exB q W (HQ5.out.below hW) HVF.out
  have hCE := fun (r : TP) W (hW : Below w5.heap.size w5 W) (hr : TrM W exB r) => tr_Equal exB exB q r W (HQ5.out.below hW) hr
  have hCO := fun W (hW : Below w5.heap.size w5 W) => tr_Off _ exB.P 4 W (HQ5.out.q.below hW)
  rw [ex_valid, HQE.out] at hCV
  rw [HQE.out] at hCC hCT hCE
  rw [eqT_iff.2 rfl] at hCE
  rw [ex_times] at hCT
  rw [ex_off, e4] at hCO
  have HCV := Lib.hid hCV
  have HCC := Lib.hid hCC
  have HCT := Lib.hid hCT
  have HCE := Lib.hid hCE
  have HCO := Lib.hid hCO
  clear hCV hCC hCT hCE hCO
  have hCK := fun W => tr_Kind 3 W
  rw [show kindF 3 = 1 from by decide] at hCK
  have HCK := Lib.hid hCK
  have HD5 := Lib.hid (show Below w5.heap.size w5 w5.drew from (Below.refl _ _).drew)
  clear hCK
  go_upto_region 8 with fail
  go_region_held3 (fun w' => w'.cell? ⟨w2.heap.size, 0, none⟩ = some (.int .i64 exB.sc) ∧ w'.cell? ⟨w2.heap.size, 1, none⟩ = some (.string (bsB exB.dt)) ∧ w'.cell? ⟨w2.heap.size, 2, none⟩ = some (.string (bsB exB.vn)) ∧ w'.cell? ⟨w2.heap.size, 3, none⟩ = some (.string (bsB exB.cm)) ∧ w'.cell? ⟨w2.heap.size, 4, none⟩ = some (.slice x1 exB.S.length y1) ∧ w'.cell? ⟨w2.heap.size, 5, none⟩ = some (.slice x2 exB.V.length y2) ∧ w'.cell? ⟨w2.heap.size, 6, none⟩ = some (.slice (some ⟨b, o, none⟩) exB.G.length y3) ∧ w'.cell? ⟨w2.heap.size, 7, none⟩ = some (.slice x4 exB.P.length y4) ∧ w'.cell? ⟨w2.heap.size, 8, none⟩ = some (.int .i64 exB.en))
    (first | exact HY10.out.nine | exact HY9.out.nine | exact HY8.out.nine | exact HY7.out.nine | exact HY6.out.nine | exact HY5.out.nine | go_keep)
    (first
      | (go_at_call 18; (with_reducible refine (HCV.out w5.drew HD5.out).mono ?_); rintro e w6 ⟨rfl, hb6⟩; have HD6 := Lib.hid (ext_trans HD5.out hb6); have HY6 := Lib.hid (HY5.out.step HD6.out); clear hb6)
      | (go_at_call 30; (with_reducible refine (HCC.out w6 HD6.out).mono ?_); rintro e w7 ⟨pc, rfl, hpc, hb7⟩; have HPC := Lib.hid hpc.m0; have HD7 := Lib.hid (ext_trans HD6.out hb7); have HY7 := Lib.hid (HY5.out.step HD7.out); clear hb7 hpc)
      | (go_at_call 21; (with_reducible refine (HCE.out pc w7 HD7.out HPC.out).mono ?_); rintro e w8 ⟨rfl, hb8⟩; have HD8 := Lib.hid (ext_trans HD7.out hb8); have HY8 := Lib.hid (HY5.out.step HD8.out); clear hb8)
      | (go_at_call 23; (with_reducible refine (HCT.out w8 HD8.out).mono ?_); rintro e w9 ⟨v9, rfl, ho9, hb9⟩; obtain ⟨a9, c9, rfl, -, -⟩ := (SlR.of_own (show w9.ownsRow w8.heap.size 3 1 v9 3 (ints [1, 3, 5]) from ho9)).shape; have HD9 := Lib.hid (ext_trans HD8.out hb9); have HY9 := Lib.hid (HY5.out.step HD9.out); clear hb9 ho9)
      | (go_at_call 25; (with_reducible refine (HCO.out w9 HD9.out).mono ?_); rintro e w10 ⟨rfl, hb10⟩; have HD10 := Lib.hid (ext_trans HD9.out hb10); have HY10 := Lib.hid (HY5.out.step HD10.out); clear hb10)
      | (go_at_call 16; (with_reducible refine (HCK.out w10).mono ?_); rintro e w11 ⟨rfl, rfl⟩)
      | fail "no arm")
  clear HCV HCC HCT HCE HCO HCK
  go_wp2_with fail
  go_ret
  exact ⟨rfl, ext_trans HB5.out HD10.out⟩
end Go.Proofs.YtbiadennhnokhaaGreatDoor
/- Arguments that came in: slices of whatever struct, fields, leaves; their reach. -/
namespace Go.Proofs.YtbiadennhnokhaaGreatDoor
open Go.Joins Go.ChangeShapes Go.WideShapes Go.RowKit Go.Deep
set_option linter.unusedSimpArgs false

theorem spot_none {w : World} {a : Addr} {v : Value} (h : w.cell? a = some v) : a.spot = none := by
  unfold World.cell? at h
  split at h
  · split at h
    · cases h
    · rename_i h1; simpa using h1
  · cases h
theorem weightsAll_mem {H : Type} {P : Program} {e : TypeId} : ∀ {l : List (DataW H)} {d : DataW H}, d ∈ l → ∀ n ∈ d.weights P e, n ∈ DataW.weightsAll P e l
  | x :: r, d, h, n, hn => by
    unfold DataW.weightsAll
    rcases List.mem_cons.1 h with rfl | h
    · exact List.mem_append.2 (.inl hn)
    · exact List.mem_append.2 (.inr (weightsAll_mem h n hn))
theorem flat_len {T : Type} {enc : T → List Value} {k : Nat} (henc : ∀ x, (enc x).length = k) : ∀ l : List T, (l.flatMap enc).length = k * l.length
  | [] => rfl
  | x :: l => by rw [List.flatMap_cons, List.length_append, henc, flat_len henc l, List.length_cons, Nat.mul_add]; omega
theorem list_gen {T : Type} {enc : T → List Value} {k : Nat} (henc : ∀ x, (enc x).length = k) {Q : T → Prop} {w : World} {a : Addr} : ∀ {m : Nat}, (∀ i, i < m → ∃ c : T, Q c ∧ ∀ (j : Nat) (u : Value), (enc c)[j]? = some u → w.cell? (a.add (i * k + j)) = some u) →
    ∃ l : List T, l.length = m ∧ (∀ c ∈ l, Q c) ∧ ∀ (j : Nat) (u : Value), (l.flatMap enc)[j]? = some u → w.cell? (a.add j) = some u
  | 0, _ => ⟨[], rfl, by simp, fun j u h => by simp at h⟩
  | m + 1, h => by
    obtain ⟨l, hl, hq, hc⟩ := list_gen henc (m := m) fun i hi => h i (by omega)
    obtain ⟨c, h0, h1⟩ := h m (by omega)
    have hf := flat_len henc l
    refine ⟨l ++ [c], by simp [hl], fun x hx => ?_, fun j u hj => ?_⟩
    · rcases List.mem_append.1 hx with hx | hx
      · exact hq x hx
      · rw [List.mem_singleton] at hx
        subst hx
        exact h0
    · rw [List.flatMap_append] at hj
      by_cases hlt : j < (l.flatMap enc).length
      · rw [List.getElem?_append_left hlt] at hj
        exact hc j u hj
      · rw [List.getElem?_append_right (by omega)] at hj
        have := h1 (j - (l.flatMap enc).length) u (by simpa using hj)
        rwa [show m * k + (j - (l.flatMap enc).length) = j by rw [hf, hl, Nat.mul_comm m k]; rw [hf, hl] at hlt; omega] at this
section
variable {H : Type} {enc : TypeId × Value → H} {P : Program} {w : World} {base : Nat} {spare : Nat → Bool} {held : Bool}
theorem open_gen {T : Type} {encT : T → List Value} {k : Nat} (henc : ∀ x, (encT x).length = k) (hk0 : 0 < k) {Q : T → Prop} {t e : TypeId} (ht : P.underlying t = some (.slice e)) (hk : P.cellsOf e = k)
    (hel : ∀ (n : Nat) (cs' : List Value) (y : DataW H × List MemPlace), cs'.length = k → DataW.trod enc P w base spare held n e cs' = some y → (∀ m ∈ y.1.weights P e, m ≤ reachBytes) → ∃ c : T, cs' = encT c ∧ Q c)
    {fuel : Nat} {cs : List Value} {x : DataW H × List MemPlace} (h : DataW.trod enc P w base spare held fuel t cs = some x) (hz : ∀ m ∈ x.1.weights P t, m ≤ reachBytes) :
    ∃ (v : Value) (l : List T), cs = [v] ∧ SlR w v l.length (l.flatMap encT) ∧ ∀ c ∈ l, Q c := by
  rcases open_slice ht h with ⟨rfl, -⟩ | ⟨a, len, cap, m, n, D, Pl, rfl, hb, hl, hm, hmm, rfl, hi⟩
  · exact ⟨_, [], rfl, SlR.nil _, by simp⟩
  · have hlm : len ≤ m := by rw [hmm]; split <;> omega
    obtain ⟨l, hll, hq, hc⟩ := list_gen henc (Q := Q) (w := w) (a := a) (m := len) fun i him => by
      obtain ⟨cs', hcs, htr⟩ := hi i (by omega)
      rw [hk] at hcs
      obtain ⟨-, hcl, hat⟩ := World.cells?_some hcs
      obtain ⟨c, rfl, hqc⟩ := hel n cs' _ hcl htr fun q hq => hz q (by
        unfold DataW.weights
        rw [ht]
        refine List.mem_cons_of_mem _ (List.mem_append.2 (.inl (weightsAll_mem (d := D i) ?_ q hq)))
        exact List.mem_map.2 ⟨i, List.mem_range.2 him, rfl⟩)
      refine ⟨c, hqc, fun j u hj => ?_⟩
      have hjk : j < k := by have := (List.getElem?_eq_some_iff.1 hj).1; rwa [hcl] at this
      rw [← Go.Deep.add_add, hat j hjk, hj]
    subst hll
    refine ⟨_, l, rfl, ⟨some a, cap, rfl, hl, hm, fun h => by simp at h, fun hn => ?_⟩, hq⟩
    have hpos : 0 < (l.flatMap encT).length := by rw [flat_len henc]; exact Nat.mul_pos hk0 (by omega)
    have hsp : a.spot = none := by
      have h0 := hc 0 _ (List.getElem?_eq_getElem hpos)
      have := spot_none h0
      simpa [Addr.add] using this
    obtain ⟨b, o, sp⟩ := a
    simp only at hsp
    subst hsp
    exact ⟨b, o, rfl, fun j u hj => by have := hc j u hj; rwa [addr_add] at this⟩
/-- a field of a struct -/
theorem fld {t : TypeId} {fs : Array Field} {n : Nat} {cs : List Value} {y : DataW H × List MemPlace} (hu : P.underlying t = some (.struct fs)) (h : DataW.trod enc P w base spare held n t cs = some y) (hz : ∀ m ∈ y.1.weights P t, m ≤ reachBytes)
    (i : Nat) {f : Field} (hi : fs[i]? = some f) {k o : Nat} (hk : P.cellsOf f.type = k) (ho : f.offset = o) : ∃ (n' : Nat) (z : DataW H × List MemPlace), DataW.trod enc P w base spare held n' f.type ((cs.drop o).take k) = some z ∧ ∀ m ∈ z.1.weights P f.type, m ≤ reachBytes := by
  obtain ⟨xs, n', -, rfl, -, hxl, hf⟩ := DataW.trod_struct hu h
  have hlt : i < xs.length := by rw [hxl]; exact (Array.getElem?_eq_some_iff.1 hi).1
  have h1 := hf i f hi
  rw [hk, ho, List.getElem?_eq_getElem hlt] at h1
  refine ⟨n', xs[i], h1, fun m hm => hz m ?_⟩
  unfold DataW.weights
  rw [hu]
  refine DataW.weights_mem_each (j := i) (t := f.type) (d := xs[i].1) ?_ ?_ m hm
  · rw [List.getElem?_map, Array.getElem?_toList, hi]; rfl
  · rw [List.getElem?_map, List.getElem?_eq_getElem hlt]; rfl
end
section
variable {H : Type} {enc : TypeId × Value → H} {w : World} {base : Nat} {spare : Nat → Bool} {held : Bool} {n : Nat} {v : Value} {z : DataW H × List MemPlace}
theorem leaf_bool (h : DataW.trod enc Tryz.prog w base spare held n 4 [v] = some z) : ∃ x : Bool, v = .bool x := by
  obtain ⟨x, e, -⟩ := DataW.trod_bool Tryz.underlying4 h
  injection e with e
  exact ⟨x, e⟩
theorem leaf_str (h : DataW.trod enc Tryz.prog w base spare held n 9 [v] = some z) (hz : ∀ m ∈ z.1.weights Tryz.prog 9, m ≤ reachBytes) : ∃ x : Bs, v = .string (bsB x) ∧ x.length ≤ 140737488351232 := by
  obtain ⟨x, e, rfl, -⟩ := DataW.trod_string Tryz.underlying9 h
  injection e with e
  refine ⟨x.data.toList, by rw [bsB_of]; exact e, ?_⟩
  exact hz _ (by unfold DataW.weights; exact List.mem_singleton.2 rfl)
end
end Go.Proofs.YtbiadennhnokhaaGreatDoor
