import Derived.Test.YtimeilkelnljnaaGreatDoorRd3
import Derived.Test.YtimeilkelnljnaaGreatDoorLw1
import Derived.Maps.AppendAt
namespace Go.Proofs.YtimeilkelnljnaaGreatDoor
open Go.RowKit

/-! the reference's Find -/
/-! the lists of the reference's Find -/
theorem runG_snoc (L : List Sg) (P : List Nat) (i : Nat) : runG L (P ++ [i]) = stepG L (runG L P) i := by simp [runG, List.foldl_append]
def procW (L : List Sg) (q j : Nat) : List Nat := ordW L (widths q) ++ (List.range j).filter fun i => decide ((sgAt L i).2.1 = 128 - (q : Int))
theorem procW_zero (L : List Sg) (q : Nat) : procW L q 0 = ordW L (widths q) := by simp [procW]
theorem procW_ne {L : List Sg} {q j : Nat} (h : (sgAt L j).2.1 ≠ 128 - (q : Int)) : procW L q (j + 1) = procW L q j := by
  unfold procW
  rw [List.range_succ, List.filter_append]
  simp [h]
theorem procW_eq {L : List Sg} {q j : Nat} (h : (sgAt L j).2.1 = 128 - (q : Int)) : procW L q (j + 1) = procW L q j ++ [j] := by
  unfold procW
  rw [List.range_succ, List.filter_append]
  simp [h]
theorem procW_end (L : List Sg) (q : Nat) : procW L q L.length = ordW L (widths (q + 1)) := by
  unfold procW ordW widths
  rw [List.range_succ, List.map_append, List.flatMap_append]
  simp
structure RfP (L : List Sg) (P : List Nat) (st : List Nat) (ds : List Dv) (m : Nat) : Prop where
  run : runG L P = (st, ds)
  mem : ∀ k ∈ st, k < L.length
  len : ds.length = L.length
  le : st.length ≤ m
theorem RfP.start (L : List Sg) : RfP L [] [] (List.replicate L.length (0, 0, false)) 0 := ⟨rfl, by simp, by simp, by simp⟩
theorem RfP.mono {L : List Sg} {P st : List Nat} {ds : List Dv} {m m' : Nat} (h : RfP L P st ds m) (hm : m ≤ m') : RfP L P st ds m' := ⟨h.run, h.mem, h.len, Nat.le_trans h.le hm⟩
theorem RfP.some {L : List Sg} {P st : List Nat} {ds : List Dv} {m j : Nat} {d : Dv} (h : RfP L P st ds m) (hr : deriveG L st (sgAt L j) = some d) : RfP L (P ++ [j]) st (ds.set j d) (m + 1) :=
  ⟨by rw [runG_snoc, h.run]; unfold stepG; dsimp only; rw [hr], h.mem, by rw [List.length_set]; exact h.len, by have := h.le; omega⟩
theorem RfP.none {L : List Sg} {P st : List Nat} {ds : List Dv} {m j : Nat} (h : RfP L P st ds m) (hj : j < L.length) (hr : deriveG L st (sgAt L j) = none) : RfP L (P ++ [j]) (st ++ [j]) (ds.set j (selfD j)) (m + 1) :=
  ⟨by rw [runG_snoc, h.run]; unfold stepG; dsimp only; rw [hr], fun k hk => by
    rcases List.mem_append.1 hk with h1 | h1
    · exact h.mem k h1
    · rw [List.mem_singleton.1 h1]; exact hj, by rw [List.length_set]; exact h.len, by have := h.le; simp; omega⟩
def takeG (L : List Sg) (st : List Nat) (s : Sg) (k : Nat) : Option Dv := (st.take k).findSome? fun i => (firstR s (sgAt L i)).map (mkD i)
theorem takeG_zero (L : List Sg) (st : List Nat) (s : Sg) : takeG L st s 0 = none := by simp [takeG]
theorem takeG_step {L : List Sg} {st : List Nat} {s x : Sg} {k kk : Nat} (h0 : takeG L st s k = none) (hk : k < st.length) (hkk : st[k] = kk) (hx : sgAt L kk = x) : takeG L st s (k + 1) = (firstR s x).map (mkD kk) := by
  unfold takeG at h0 ⊢
  rw [List.take_succ_eq_append_getElem hk, List.findSome?_append, h0, hkk]
  simp [hx]
theorem deriveG_some {L : List Sg} {st : List Nat} {s : Sg} {k : Nat} {d : Dv} (hs : s.2.2 ≠ []) (h : takeG L st s k = some d) : deriveG L st s = some d := by
  unfold takeG at h
  unfold deriveG
  rw [if_neg hs, ← List.take_append_drop k st, List.findSome?_append, h]
  rfl
theorem deriveG_none {L : List Sg} {st : List Nat} {s : Sg} (hs : s.2.2 ≠ []) (h : takeG L st s st.length = none) : deriveG L st s = none := by
  unfold takeG at h
  rw [List.take_length] at h
  unfold deriveG
  rw [if_neg hs, h]
theorem deriveG_empty {L : List Sg} {st : List Nat} {s : Sg} (hs : s.2.2 = []) : deriveG L st s = some (-1, 0, false) := by unfold deriveG; rw [if_pos hs]

/-- the stored indices among the first ones -/
def stoK (L : List Sg) (D : List Dv) (i : Nat) : Bool := decide (D[i]? = some (selfD i)) && !decide ((sgAt L i).2.2 = [])
def stoT (L : List Sg) (D : List Dv) (j : Nat) : List Nat := (List.range j).filter (stoK L D)
theorem stoT_yes {L : List Sg} {D : List Dv} {j : Nat} (h : stoK L D j = true) : stoT L D (j + 1) = stoT L D j ++ [j] := by
  unfold stoT
  rw [List.range_succ, List.filter_append]
  simp [h]
theorem stoT_no {L : List Sg} {D : List Dv} {j : Nat} (h : stoK L D j = false) : stoT L D (j + 1) = stoT L D j := by
  unfold stoT
  rw [List.range_succ, List.filter_append]
  simp [h]
theorem stoT_end (L : List Sg) (D : List Dv) : stoT L D L.length = storedG L D := rfl
theorem stoT_le (L : List Sg) (D : List Dv) (j : Nat) : (stoT L D j).length ≤ j := by
  have := List.length_filter_le (stoK L D) (List.range j)
  simpa [stoT] using this
/-- the derivations, some of them renumbered -/
def renGL (ST : List Nat) (ds : List Dv) (p : Nat) : List Dv := (ds.take p).map (renG ST) ++ ds.drop p
theorem renGL_len (ST : List Nat) (ds : List Dv) (p : Nat) : (renGL ST ds p).length = ds.length := by
  unfold renGL
  rw [List.length_append, List.length_map, List.length_take, List.length_drop]
  omega
theorem renGL_at {ST : List Nat} {ds : List Dv} {p : Nat} (h : p < ds.length) : (renGL ST ds p)[p]? = some ds[p] := by
  unfold renGL
  rw [List.getElem?_append_right (by rw [List.length_map, List.length_take]; omega), List.length_map, List.length_take, Nat.min_eq_left (by omega), Nat.sub_self, List.getElem?_drop, Nat.add_zero, List.getElem?_eq_getElem h]
theorem renGL_step {ST : List Nat} {ds : List Dv} {p : Nat} (h : p < ds.length) : renGL ST ds (p + 1) = (renGL ST ds p).set p (renG ST ds[p]) := by
  unfold renGL
  rw [List.set_append_right _ _ (by rw [List.length_map, List.length_take]; omega), List.length_map, List.length_take, Nat.min_eq_left (by omega), Nat.sub_self, List.drop_eq_getElem_cons h, List.set_cons_zero, List.take_succ_eq_append_getElem h, List.map_append]
  simp
theorem renGL_end (ST : List Nat) (ds : List Dv) : renGL ST ds ds.length = ds.map (renG ST) := by
  unfold renGL
  rw [List.take_length, List.drop_length, List.append_nil]
theorem renG_hit {ST : List Nat} {d : Dv} {k : Nat} (hk : k < ST.length) (h : ∀ j (hj : j < ST.length), j < k → ((ST[j] : Nat) : Int) ≠ d.1) (he : ((ST[k] : Nat) : Int) = d.1) : renG ST d = ((k : Int), d.2.1, d.2.2) := by
  unfold renG
  have : ST.findIdx? (fun (j : Nat) => decide ((j : Int) = d.1)) = some k := by
    rw [List.findIdx?_eq_some_iff_getElem]
    exact ⟨hk, by rw [decide_eq_true_iff]; exact he, fun j hj => by
      have := h j (by omega) hj
      show ¬ (decide (((ST[j] : Nat) : Int) = d.1) = true)
      rw [decide_eq_true_iff]; exact this⟩
  rw [this]
theorem renG_miss {ST : List Nat} {d : Dv} (h : ∀ j (hj : j < ST.length), ((ST[j] : Nat) : Int) ≠ d.1) : renG ST d = d := by
  unfold renG
  have : ST.findIdx? (fun (j : Nat) => decide ((j : Int) = d.1)) = none := by
    rw [List.findIdx?_eq_none_iff]
    intro x hx
    obtain ⟨j, hj, rfl⟩ := List.getElem_of_mem hx
    rw [decide_eq_false_iff_not]
    exact h j hj
  rw [this]

/-- the memory of the reference's Find -/
structure RfSt (w : World) (F O : Nat) (W : World) (fv : Value) (st : List Nat) (D : List Dv) : Prop where
  f : W.ownsRow F 3 1 fv st.length (nats st)
  n : fv.ownBlock ≠ some O
  o : OwnRow W O (dvs D)
  b : Below w.heap.size w W
  z : O < W.heap.size
  y : w.heap.size ≤ F ∧ w.heap.size ≤ O
  q : F ≤ W.heap.size
theorem RfSt.later {w W W' : World} {F O : Nat} {fv : Value} {st : List Nat} {D : List Dv} (h : RfSt w F O W fv st D) (hb : Below W.heap.size W W') : RfSt w F O W' fv st D :=
  ⟨own_below h.f hb, h.n, h.o.below hb h.z, h.b.trans (hb.mono h.b.size), by have := hb.size; have := h.z; omega, h.y, Nat.le_trans h.q hb.size⟩
theorem RfSt.drewN {w W : World} {F O : Nat} {fv : Value} {st : List Nat} {D : List Dv} (h : RfSt w F O W fv st D) (m : Nat) : RfSt w F O (W.drewN m) fv st D := h.later (below_drewN (Below.refl _ _) m)
theorem grownBy_sc (w : World) (b q : Nat) (v : Value) : w.grownBy (w.setCell ⟨b, q, none⟩ v) (some b) :=
  ⟨rfl, rfl, rfl, by simp [World.setCell], fun k _ hk => Below.heap_setCell _ _ _ _ (fun e => hk (by simp [e]))⟩
theorem RfSt.set1 {w W : World} {F O : Nat} {fv : Value} {st : List Nat} {D D' : List Dv} (h : RfSt w F O W fv st D) {i : Nat} {x : Value} (ho : OwnRow (W.setCell ⟨O, i, none⟩ x) O (dvs D')) : RfSt w F O (W.setCell ⟨O, i, none⟩ x) fv st D' :=
  ⟨h.f.kept (grownBy_sc W O i x) (.inr h.n), h.n, ho, h.b.setCell h.y.2 _, by simpa using h.z, h.y, by simpa using h.q⟩
theorem RfSt.put {w W : World} {F O : Nat} {fv : Value} {st : List Nat} {D : List Dv} (h : RfSt w F O W fv st D) {j : Nat} (hj : j < D.length) (d : Dv) :
    RfSt w F O (((W.setCell ⟨O, j * 3, none⟩ (.int .i64 d.1)).setCell ⟨O, j * 3 + 1, none⟩ (.int .i64 d.2.1)).setCell ⟨O, j * 3 + 2, none⟩ (.bool d.2.2)) fv st (D.set j d) :=
  ⟨((h.f.kept (grownBy_sc _ O _ _) (.inr h.n)).kept (grownBy_sc _ O _ _) (.inr h.n)).kept (grownBy_sc _ O _ _) (.inr h.n), h.n, ownRow_put h.o hj d, below_put h.b h.y.2 _ _ _ _ _ _, by simpa using h.z, h.y, by simpa using h.q⟩
theorem RfSt.app {w W W' : World} {F O : Nat} {fv fv' : Value} {st : List Nat} {D : List Dv} {x : Obj} {k m : Nat} (h : RfSt w F O W fv st D) (hm : m = st.length + 1) (ho : W'.ownsRow F 3 1 fv' m (nats st ++ [.int .i64 (k : Int)])) (hg : (W.alloc x).grownBy W' fv.ownBlock)
    (hv : fv'.ownBlock = fv.ownBlock ∨ fv'.ownBlock = some (W.heap.size + 1)) : RfSt w F O W' fv' (st ++ [k]) D :=
  ⟨by subst hm; rw [nats_app, List.length_append]; exact ho, by
    rcases hv with hv | hv
    · rw [hv]; exact h.n
    · rw [hv]; intro e; have e := Option.some.inj e; have := h.z; omega, OwnRow.grown (h.o.alloc h.z x) hg (by have := h.z; simp; omega) (fun e => h.n e.symm), (h.b.alloc h.b.size x).grown hg (by have := h.b.size; simp; omega) (fun q hq => by have := (h.f.lt q hq).1; have := h.y.1; omega), by have h1 := hg.size; have := h.z; rw [World.size_alloc] at h1; omega, h.y, by have h1 := hg.size; have := h.q; rw [World.size_alloc] at h1; omega⟩

theorem RfSt.ofI {w W : World} {F O : Nat} {fv : Value} {st : List Nat} {D : List Dv} (h : RfSt w F O W fv st D) {p : Nat} {d : Dv} (hp : p < D.length) (hd : D[p]? = some d) (k : Int) :
    RfSt w F O (W.setCell ⟨O, p * 3, none⟩ (.int .i64 k)) fv st (D.set p (k, d.2.1, d.2.2)) := by
  obtain ⟨h1, hd⟩ := List.getElem?_eq_some_iff.1 hd
  obtain ⟨old0, old1, old2⟩ := dvs_at D p hp
  rw [hd] at old0 old1 old2
  refine h.set1 ?_
  rw [← dvs_set]
  rw [set_same (l := (dvs D).set (3 * p) (.int .i64 k)) (i := 3 * p + 1) (by rw [List.getElem?_set_ne (by omega)]; exact old1)]
  rw [set_same (by rw [List.getElem?_set_ne (by omega)]; exact old2), Nat.mul_comm 3 p]
  exact h.o.set (by rw [dvs_len]; omega) _
theorem RfSt.cells {w W : World} {F O : Nat} {fv : Value} {st : List Nat} {D : List Dv} (h : RfSt w F O W fv st D) {j : Nat} {d : Dv} (hd : D[j]? = some d) :
    (W.cell? ⟨O, j * 3, none⟩ = some (.int .i64 d.1) ∧ W.cell? ⟨O, j * 3 + 1, none⟩ = some (.int .i64 d.2.1) ∧ W.cell? ⟨O, j * 3 + 2, none⟩ = some (.bool d.2.2)) ∧
    (W.frozen? ⟨O, j * 3, none⟩ = false ∧ W.frozen? ⟨O, j * 3 + 1, none⟩ = false ∧ W.frozen? ⟨O, j * 3 + 2, none⟩ = false) := by
  obtain ⟨hj, hd⟩ := List.getElem?_eq_some_iff.1 hd
  obtain ⟨old0, old1, old2⟩ := dvs_at D j hj
  rw [hd] at old0 old1 old2
  exact ⟨⟨h.o.cell (j := j * 3) (by rw [Nat.mul_comm]; exact old0), h.o.cell (j := j * 3 + 1) (by rw [Nat.mul_comm]; exact old1), h.o.cell (j := j * 3 + 2) (by rw [Nat.mul_comm]; exact old2)⟩,
    h.o.free (j := j * 3) (by rw [dvs_len]; omega), h.o.free (j := j * 3 + 1) (by rw [dvs_len]; omega), h.o.free (j := j * 3 + 2) (by rw [dvs_len]; omega)⟩
theorem RfSt.fresh {w W : World} {F O : Nat} {fv : Value} {st : List Nat} {D : List Dv} (h : RfSt w F O W fv st D) :
    RfSt w W.heap.size O (W.alloc (.cells #[] 3)) (.slice (some ⟨W.heap.size, 0, none⟩) 0 0) [] D :=
  ⟨World.ownsRow_made W #[] 0 (Nat.le_refl _) (Nat.zero_le _) rfl, by have := h.z; simp [Value.ownBlock]; omega, h.o.alloc h.z _, h.b.alloc h.b.size _, by have := h.z; simp; omega, ⟨h.b.size, h.y.2⟩, by simp⟩

theorem all_drop {L : List (Sg × Value)} {j : Nat} (h : j < L.length) : ((L.drop j).all fun x => svS x.1) = (svS L[j].1 && (L.drop (j + 1)).all fun x => svS x.1) := by
  rw [List.drop_eq_getElem_cons h, List.all_cons]

set_option maxHeartbeats 8000000 in
set_option maxRecDepth 100000 in
theorem ref_Find29 (v : Value) (L : List (Sg × Value)) (w : World) (hs : Sigs w v L) (hf : FitS L) (hl : L.length ≤ 8) :
    Calls Tryz.prog 11 #[v] w (FindPost (findR (L.map Prod.fst)) w) := by
  obtain ⟨a, cap, rfl, hc, hm⟩ := hs.s.shape
  have HS := Lib.hid hs
  have HF := Lib.hid hf
  have hsz : decide ((L.length : Int) > 64) = false := by rw [decide_eq_false_iff_not]; omega
  clear hs hf hm
  go_enter Tryz.func11, Tryz.ntmps11
  go_wp2_with fail
  go_loopw [4] (fun i wr => ∃ (j : Nat), j ≤ L.length ∧ i = .int .i64 j ∧ ((L.drop j).all fun x => svS x.1) = (L.all fun x => svS x.1) ∧ Below w.heap.size w wr) (fun i _ => L.length - (intOf i).toNat)
  case atStart => exact ⟨0, Nat.zero_le _, rfl, rfl, Below.refl _ _⟩
  case round =>
    obtain ⟨j, hj, rfl, hgo, hb⟩ := hrel
    have HGO := Lib.hid hgo
    have HB := Lib.hid hb
    clear hgo hb
    by_cases hlt : j < L.length
    · obtain ⟨b, o, rfl, y0, y1, y2, hy⟩ := (HS.out.below HB.out).at hlt
      have HGO2 := Lib.hid ((all_drop hlt).symm.trans HGO.out)
      have HFX := Lib.hid (HF.out.2 _ (List.getElem_mem hlt))
      generalize L[j] = x at y0 y1 y2 hy HGO2 HFX
      obtain ⟨⟨xk, xn, xl⟩, xv⟩ := x
      dsimp only at y0 y1 y2 hy HGO2 HFX
      obtain ⟨xa, xc, rfl, -, -⟩ := hy.shape
      have HV := Lib.hid (ref_sValid xk xn (.slice xa xl.length xc) xl wr hy HFX.out)
      clear hy
      go_wp2_with fail
      refine HV.out.mono ?_
      rintro e w1 ⟨rfl, hb1⟩
      have HB1 := Lib.hid (ext_trans HB.out hb1)
      clear hb1
      cases hv : sv xk xn xl
      · have HR := Lib.hid (show findR (L.map Prod.fst) = ([], []) by
          unfold findR
          rw [if_neg]
          rw [List.all_map, show L.all (svS ∘ Prod.fst) = L.all (fun x => svS x.1) from rfl, ← HGO2.out, show svS (xk, xn, xl) = false from hv]
          simp)
        clear hv
        go_wp2_with fail
        refine bodyPost_ret (v := .tuple #[.slice none 0 0, .slice none 0 0]) (by simp [results, Tryz.results11, go_sem]) rfl ?_
        rw [HR.out]
        exact ⟨_, _, rfl, own_nil _ _ _ _, SlR.nil _, HB1.out⟩
      · have HGO3 := Lib.hid (show ((L.drop (j + 1)).all fun x => svS x.1) = (L.all fun x => svS x.1) by rw [← HGO2.out, show svS (xk, xn, xl) = true from hv, Bool.true_and])
        clear hv
        go_wp2_with fail
        go_roundw
        case rel => exact ⟨j + 1, by omega, by go_num, HGO3.out, HB1.out⟩
        case measure => simp [intOf]; omega
    · obtain rfl : j = L.length := by omega
      have HALL := Lib.hid (show (L.all fun x => svS x.1) = true by rw [← HGO.out, List.drop_length]; rfl)
      have HR0 := Lib.hid (World.ownsRow_made wr #[] 0 (Nat.le_refl _) (Nat.zero_le _) rfl : (wr.alloc (.cells #[] 3)).ownsRow wr.heap.size 3 1 (.slice (some ⟨wr.heap.size, 0, none⟩) 0 0) 0 [])
      obtain ⟨i1, hi1, jz0, jz1, jz2⟩ := info_parts (P := Tryz.prog) dv_info
      obtain ⟨i0, hi, iz0, iz1, iz2⟩ := info_parts (P := Tryz.prog) int_info
      have HBE := Lib.hid (HB.out.alloc HB.out.size (.cells #[] 3))
      have hze : wr.heap.size < (wr.alloc (.cells #[] 3)).heap.size := by simp
      have hz2 : (wr.alloc (.cells #[] 3)).heap.size = wr.heap.size + 1 := by simp
      obtain ⟨w2, hw2⟩ : ∃ w2, w2 = wr.alloc (.cells #[] 3) := ⟨_, rfl⟩
      rw [← hw2] at HR0 HBE hze hz2
      obtain ⟨w3, hmk, ho3, hg3⟩ := run_make_full (P := Tryz.prog) (w := w2) w2.heap.size 26 34 i1 _ 3 Tryz.underlying26 hi1 jz0 jz1 .i64 .i64 L.length (by rw [jz2]; omega) (by unfold maxLen; omega) (Nat.le_refl _)
      have hmd : (madeCells (Value.agg #[.int .i64 0, .int .i64 0, .bool false]).cells (L.length * 3)).toList = dvs (List.replicate L.length (0, 0, false)) := made_dvs _
      have hb3 := RowKit.Below.grown (RowKit.Below.refl w2.heap.size w2) hg3 (Nat.le_refl _) (by simp)
      have hout : OwnRow w3 w2.heap.size (dvs (List.replicate L.length (0, 0, false))) := by rw [← hmd]; exact ownRow_of ho3 rfl
      have hz3 : w2.heap.size < w3.heap.size := own_lt ho3 rfl
      have HB3 := Lib.hid hb3
      have HOUT := Lib.hid hout
      have HR3 := Lib.hid (own_below HR0.out hb3)
      rw [hw2] at hmk
      go_wp2_with fail
      clear hmd hb3 hout ho3 hg3 hmk hw2
      have hS := Lib.hid (show RfSt w wr.heap.size w2.heap.size w3 (.slice (some ⟨wr.heap.size, 0, none⟩) 0 0) [] (List.replicate L.length (0, 0, false)) from
        ⟨HR3.out, by simp [Value.ownBlock]; omega, HOUT.out, HBE.out.trans (HB3.out.mono HBE.out.size), hz3, ⟨HB.out.size, HBE.out.size⟩, by have := HB3.out.size; omega⟩)
      have hOF : w2.heap.size = wr.heap.size + 1 := hz2
      rw [hOF] at hS
      clear HR3 HOUT HB3 HR0 hi1 jz0 jz1 jz2 HBE hze hOF hz3 hz2
      generalize wr.heap.size = F at hS ⊢
      clear w2
      go_loopw [5, 7] (fun f_ d_ wq => ∃ (q : Nat) (st : List Nat) (ds : List Dv), q ≤ 129 ∧ d_ = .int .i64 (128 - (q : Int)) ∧ RfP (L.map Prod.fst) (ordW (L.map Prod.fst) (widths q)) st ds (q * 8) ∧ RfSt w F (F + 1) wq f_ st ds) (fun _ d_ _ => (intOf d_ + 1).toNat)
      case atStart => exact ⟨0, [], _, by omega, rfl, by have := RfP.start (L.map Prod.fst); rw [List.length_map] at this; exact this, hS.out⟩
      case round =>
        obtain ⟨q, st, ds, hq, rfl, hp, hs⟩ := hrel
        have HP := Lib.hid hp
        have HSt := Lib.hid hs
        clear hp hs hS
        by_cases hlq : q < 129
        · have hqd : decide ((q : Int) ≤ 128) = true := by rw [decide_eq_true_iff]; omega
          go_wp2_with fail
          clear hqd
          go_loopw [5, 8] (fun f_ j_ wj => ∃ (j : Nat) (st : List Nat) (ds : List Dv), j ≤ L.length ∧ j_ = .int .i64 j ∧ RfP (L.map Prod.fst) (procW (L.map Prod.fst) q j) st ds (q * 8 + j) ∧ RfSt w F (F + 1) wj f_ st ds) (fun _ j_ _ => L.length - (intOf j_).toNat)
          case atStart => exact ⟨0, st, ds, Nat.zero_le _, rfl, by rw [procW_zero]; exact HP.out, HSt.out⟩
          case round =>
            clear HP HSt st ds
            obtain ⟨j, st, ds, hj, rfl, hp, hs⟩ := hrel
            have HP := Lib.hid hp
            obtain ⟨af, cf, rfl, -, -⟩ := (SlR.of_own hs.f).shape
            have HSt := Lib.hid hs
            clear hp hs
            by_cases hlj : j < L.length
            · obtain ⟨b, o, rfl, y0, y1, y2, hy⟩ := (HS.out.below HSt.out.b).at hlj
              have HX := Lib.hid (show sgAt (L.map Prod.fst) j = L[j].1 by rw [sgAt_lt (by simpa using hlj)]; simp)
              have HFX := Lib.hid (HF.out.2 _ (List.getElem_mem hlj))
              have hvx := List.all_eq_true.1 HALL.out _ (List.getElem_mem hlj)
              obtain ⟨x, hx⟩ : ∃ x, x = L[j] := ⟨_, rfl⟩
              have HLJ := Lib.hid hx.symm
              rw [← hx] at y0 y1 y2 hy HX HFX hvx
              clear hx
              obtain ⟨⟨xk, xn, xl⟩, xv⟩ := x
              dsimp only at y0 y1 y2 hy HX HFX hvx
              obtain ⟨xa, xc, rfl, -, -⟩ := hy.shape
              have HY := Lib.hid hy
              have hwx := sv_width hvx
              clear hy
              by_cases hw : xn = 128 - (q : Int)
              · have hwb : (xn != 128 - (q : Int)) = false := by rw [bne_eq_false_iff_eq]; exact hw
                have HW := Lib.hid hw
                have hpd : j < ds.length := by rw [HP.out.len, List.length_map]; exact hlj
                obtain ⟨old0, old1, old2⟩ := dvs_at ds j hpd
                have k0 := HSt.out.o.cell (j := j * 3) (by rw [Nat.mul_comm]; exact old0)
                have k1 := HSt.out.o.cell (j := j * 3 + 1) (by rw [Nat.mul_comm]; exact old1)
                have k2 := HSt.out.o.cell (j := j * 3 + 2) (by rw [Nat.mul_comm]; exact old2)
                have f0 := HSt.out.o.free (j := j * 3) (by rw [dvs_len]; omega)
                have f1 := HSt.out.o.free (j := j * 3 + 1) (by rw [dvs_len]; omega)
                have f2 := HSt.out.o.free (j := j * 3 + 2) (by rw [dvs_len]; omega)
                clear old0 old1 old2 hw
                go_upto_region 18 with fail
                clear k0 k1 k2 f0 f1 f2
                have hsp := HSt.out.put hpd (selfD j)
                dsimp only [selfD] at hsp
                generalize ((wr.setCell ⟨F + 1, j * 3, none⟩ (.int .i64 (j : Int))).setCell ⟨F + 1, j * 3 + 1, none⟩ (.int .i64 0)).setCell ⟨F + 1, j * 3 + 2, none⟩ (.bool false) = w5 at hsp ⊢
                have HSP := Lib.hid hsp
                clear hsp y0 y1 y2 HY
                obtain ⟨b', o', hbo, y0, y1, y2, hy⟩ := (HS.out.below HSP.out.b).at hlj
                injection hbo with hbo
                injection hbo with e1 e2 _
                subst e1 e2
                have HY := Lib.hid hy
                rw [HLJ.out] at y0 y1 y2 HY
                clear hy
                by_cases hxl : xl = []
                · have hlb : ((xl.length : Int) == 0) = true := by rw [hxl]; rfl
                  have HP2 := Lib.hid (show RfP (L.map Prod.fst) (procW (L.map Prod.fst) q (j + 1)) st (ds.set j (-1, 0, false)) (q * 8 + j + 1) by rw [procW_eq (by rw [HX.out]; exact HW.out)]; exact HP.out.some (deriveG_empty (by rw [HX.out]; exact hxl)))
                  obtain ⟨old0, old1, old2⟩ := dvs_at (ds.set j ((j : Int), 0, false)) j (by rw [List.length_set]; exact hpd)
                  have k0 := HSP.out.o.cell (j := j * 3) (by rw [Nat.mul_comm]; exact old0)
                  have k1 := HSP.out.o.cell (j := j * 3 + 1) (by rw [Nat.mul_comm]; exact old1)
                  have k2 := HSP.out.o.cell (j := j * 3 + 2) (by rw [Nat.mul_comm]; exact old2)
                  have f0 := HSP.out.o.free (j := j * 3) (by rw [dvs_len, List.length_set]; omega)
                  have f1 := HSP.out.o.free (j := j * 3 + 1) (by rw [dvs_len, List.length_set]; omega)
                  have f2 := HSP.out.o.free (j := j * 3 + 2) (by rw [dvs_len, List.length_set]; omega)
                  clear old0 old1 old2 hxl
                  go_upto_region 21 with fail
                  have hsp := HSP.out.put (j := j) (by rw [List.length_set]; exact hpd) (-1, 0, false)
                  rw [List.set_set] at hsp
                  dsimp only at hsp
                  clear k0 k1 k2 f0 f1 f2 y0 y1 y2 HY HSP
                  generalize ((w5.setCell ⟨F + 1, j * 3, none⟩ (.int .i64 (-1))).setCell ⟨F + 1, j * 3 + 1, none⟩ (.int .i64 0)).setCell ⟨F + 1, j * 3 + 2, none⟩ (.bool false) = w6 at hsp ⊢
                  have HSQ := Lib.hid hsp
                  clear hsp
                  by_cases hst0 : (0 : Int) < (st.length : Int)
                  · have hkd : decide ((0 : Int) < (st.length : Int)) = true := by rw [decide_eq_true_iff]; exact hst0
                    have hkd2 : decide (0 < st.length) = true := by rw [decide_eq_true_iff]; omega
                    clear hst0
                    go_wp2_with fail
                    go_loopw [9, 10] (fun d_ k_ wq => d_ = .bool true ∧ k_ = .int .i64 0 ∧ wq = w6) (fun _ _ _ => 0)
                    case atStart => exact ⟨rfl, rfl, rfl⟩
                    case round =>
                      obtain ⟨rfl, rfl, rfl⟩ := hrel
                      go_wp2_with fail
                      go_roundw
                      case rel => exact ⟨j + 1, st, _, by omega, by go_num, HP2.out.mono (by omega), HSQ.out⟩
                      case measure => simp [intOf]; omega
                  · have hkd : decide ((0 : Int) < (st.length : Int)) = false := by rw [decide_eq_false_iff_not]; exact hst0
                    have hkd2 : decide (0 < st.length) = false := by rw [decide_eq_false_iff_not]; omega
                    clear hst0
                    go_wp2_with fail
                    go_loopw [9, 10] (fun d_ k_ wq => d_ = .bool true ∧ k_ = .int .i64 0 ∧ wq = w6) (fun _ _ _ => 0)
                    case atStart => exact ⟨rfl, rfl, rfl⟩
                    case round =>
                      obtain ⟨rfl, rfl, rfl⟩ := hrel
                      go_wp2_with fail
                      go_roundw
                      case rel => exact ⟨j + 1, st, _, by omega, by go_num, HP2.out.mono (by omega), HSQ.out⟩
                      case measure => simp [intOf]; omega
                · have hlb : ((xl.length : Int) == 0) = false := by rw [beq_eq_false_iff_ne]; have := List.length_pos_iff.2 hxl; omega
                  have HXL := Lib.hid hxl
                  clear hxl y0 y1
                  go_upto_region 21 with fail
                  clear y2 HY
                  go_wp2_with fail
                  go_loopw [9, 10] (fun d_ k_ wq => ∃ (k : Nat) (r : Option Dv), k ≤ st.length ∧ d_ = .bool r.isSome ∧ k_ = .int .i64 k ∧ takeG (L.map Prod.fst) st (xk, xn, xl) k = r ∧ RfSt w F (F + 1) wq (.slice af st.length cf) st (ds.set j (r.getD ((j : Int), 0, false)))) (fun _ k_ _ => st.length - (intOf k_).toNat)
                  case atStart => exact ⟨0, none, Nat.zero_le _, rfl, rfl, takeG_zero _ _ _, HSP.out⟩
                  case round =>
                    obtain ⟨k, r, hk, rfl, rfl, hr, hs⟩ := hrel
                    have HT := Lib.hid hr
                    have HSk := Lib.hid hs
                    clear hr hs HSP
                    cases r with
                    | some d =>
                      dsimp only [Option.isSome, Option.getD] at HSk ⊢
                      have HP2 := Lib.hid (show RfP (L.map Prod.fst) (procW (L.map Prod.fst) q (j + 1)) st (ds.set j d) (q * 8 + j + 1) by rw [procW_eq (by rw [HX.out]; exact HW.out)]; exact HP.out.some (by rw [HX.out]; exact deriveG_some HXL.out HT.out))
                      by_cases hst0 : (k : Int) < (st.length : Int)
                      · have hkd : decide ((k : Int) < (st.length : Int)) = true := by rw [decide_eq_true_iff]; exact hst0
                        have hkd2 : decide (k < st.length) = true := by rw [decide_eq_true_iff]; omega
                        clear hst0
                        go_wp2_with fail
                        go_roundw
                        case rel => exact ⟨j + 1, st, _, by omega, by go_num, HP2.out.mono (by omega), HSk.out⟩
                        case measure => simp [intOf]; omega
                      · have hkd : decide ((k : Int) < (st.length : Int)) = false := by rw [decide_eq_false_iff_not]; exact hst0
                        have hkd2 : decide (k < st.length) = false := by rw [decide_eq_false_iff_not]; omega
                        clear hst0
                        go_wp2_with fail
                        go_roundw
                        case rel => exact ⟨j + 1, st, _, by omega, by go_num, HP2.out.mono (by omega), HSk.out⟩
                        case measure => simp [intOf]; omega
                    | none =>
                      dsimp only [Option.isSome, Option.getD] at HSk ⊢
                      by_cases hlk : k < st.length
                      · have hkd : decide ((k : Int) < (st.length : Int)) = true := by rw [decide_eq_true_iff]; omega
                        have hkd2 : decide (k < st.length) = true := by rw [decide_eq_true_iff]; exact hlk
                        obtain ⟨bf, of_, cf', hvf, -, -, hcf⟩ := (SlR.of_own HSk.out.f).at (by omega)
                        injection hvf with ev1 ev2 ev3
                        subst ev1
                        clear ev2 ev3
                        obtain ⟨kk, hkk⟩ : ∃ kk, st[k] = kk := ⟨_, rfl⟩
                        have hki : kk < L.length := by have := HP.out.mem st[k] (List.getElem_mem hlk); rw [List.length_map, hkk] at this; exact this
                        have u0 := hcf k (.int .i64 (kk : Int)) (by simp [nats, hlk, hkk])
                        clear hcf
                        obtain ⟨b2, o2, hb2, z0, z1, z2, hz⟩ := (HS.out.below HSk.out.b).at hki
                        injection hb2 with hb2
                        injection hb2 with eb1 eb2 _
                        subst eb1 eb2
                        obtain ⟨b3, o3, hb3, y0, y1, y2, hy⟩ := (HS.out.below HSk.out.b).at hlj
                        injection hb3 with hb3
                        injection hb3 with eb1 eb2 _
                        subst eb1 eb2
                        rw [HLJ.out] at y0 y1 y2 hy
                        dsimp only at y0 y1 y2 hy
                        have HX2 := Lib.hid (show sgAt (L.map Prod.fst) kk = L[kk].1 by rw [sgAt_lt (by simpa using hki)]; simp)
                        have HFK := Lib.hid (HF.out.2 _ (List.getElem_mem hki))
                        have hvk := List.all_eq_true.1 HALL.out _ (List.getElem_mem hki)
                        generalize L[kk] = qq at z0 z1 z2 hz HX2 HFK hvk
                        obtain ⟨⟨qk, qn, ql⟩, qv⟩ := qq
                        dsimp only at z0 z1 z2 hz HX2 HFK hvk
                        obtain ⟨qa, qc, rfl, -, -⟩ := hz.shape
                        have hwq := sv_width hvk
                        have HFI := Lib.hid (fun W (hW : RowKit.Below wr.heap.size wr W) => ref_first (xk, xn, xl) (qk, qn, ql) (.slice xa xl.length xc) (.slice qa ql.length qc) W (hy.below hW) (hz.below hW) HFK.out hwx hwq)
                        have HT2 := Lib.hid (takeG_step HT.out hlk hkk HX2.out)
                        obtain ⟨fr, hfr⟩ : ∃ fr, fr = firstR (xk, xn, xl) (qk, qn, ql) := ⟨_, rfl⟩
                        rw [← hfr] at HFI HT2
                        obtain ⟨f, hf0⟩ : ∃ f : Nat, f = (fr.getD (0, false)).1 := ⟨_, rfl⟩
                        obtain ⟨inv, hi0⟩ : ∃ i : Bool, i = (fr.getD (0, false)).2 := ⟨_, rfl⟩
                        obtain ⟨ok, hok⟩ : ∃ ok : Bool, ok = fr.isSome := ⟨_, rfl⟩
                        have HTF := Lib.hid (show ok = false → takeG (L.map Prod.fst) st (xk, xn, xl) (k + 1) = none from fun h => by
                          have hfn : fr = none := by
                            rw [hok] at h
                            cases fr with
                            | none => rfl
                            | some p0 => cases h
                          rw [HT2.out, hfn]; rfl)
                        have HTT := Lib.hid (show ok = true → takeG (L.map Prod.fst) st (xk, xn, xl) (k + 1) = some ((kk : Int), (f : Int), inv) from fun h => by
                          rw [HT2.out, hf0, hi0]; rw [hok] at h
                          obtain ⟨p0, hp0⟩ := Option.isSome_iff_exists.1 h
                          rw [hp0]; rfl)
                        unfold FirstPost at HFI
                        rw [← hf0, ← hi0, ← hok] at HFI
                        have V0 := Lib.hid (And.intro u0 (And.intro y0 (And.intro y1 (And.intro y2 (And.intro z0 (And.intro z1 z2))))))
                        have hl0 := cell_lt u0
                        have hl1 := cell_lt y0
                        have hl2 := cell_lt z0
                        clear hfr hf0 hi0 hok hkk hz hy hvk HT2 HFK
                        have hst8 : st.length ≤ 2000 := by have := HP.out.le; omega
                        go_upto_region 24 with fail
                        go_region_held3 (fun w' => w'.cell? ⟨bf, of_ + k, none⟩ = some (.int .i64 (kk : Int)) ∧ w'.cell? ⟨b, o + j * 3, none⟩ = some (.int .i64 xk) ∧ w'.cell? ⟨b, o + j * 3 + 1, none⟩ = some (.int .i64 xn) ∧ w'.cell? ⟨b, o + j * 3 + 2, none⟩ = some (.slice xa xl.length xc) ∧ w'.cell? ⟨b, o + kk * 3, none⟩ = some (.int .i64 qk) ∧ w'.cell? ⟨b, o + kk * 3 + 1, none⟩ = some (.int .i64 qn) ∧ w'.cell? ⟨b, o + kk * 3 + 2, none⟩ = some (.slice qa ql.length qc))
                          (first
                            | exact ⟨u0, y0, y1, y2, z0, z1, z2⟩
                            | exact ⟨v0, v1, v2, v3, v4, v5, v6⟩
                            | (exact ⟨((((B5.out.setCell hDg9 _).setCell hDg9 _).setCell hDg9 _).cell (p := ⟨bf, of_ + k, none⟩) hl0).trans V0.out.1, ((((B5.out.setCell hDg9 _).setCell hDg9 _).setCell hDg9 _).cell (p := ⟨b, o + j * 3, none⟩) hl1).trans V0.out.2.1, ((((B5.out.setCell hDg9 _).setCell hDg9 _).setCell hDg9 _).cell (p := ⟨b, o + j * 3 + 1, none⟩) hl1).trans V0.out.2.2.1, ((((B5.out.setCell hDg9 _).setCell hDg9 _).setCell hDg9 _).cell (p := ⟨b, o + j * 3 + 2, none⟩) hl1).trans V0.out.2.2.2.1, ((((B5.out.setCell hDg9 _).setCell hDg9 _).setCell hDg9 _).cell (p := ⟨b, o + kk * 3, none⟩) hl2).trans V0.out.2.2.2.2.1, ((((B5.out.setCell hDg9 _).setCell hDg9 _).setCell hDg9 _).cell (p := ⟨b, o + kk * 3 + 1, none⟩) hl2).trans V0.out.2.2.2.2.2.1, ((((B5.out.setCell hDg9 _).setCell hDg9 _).setCell hDg9 _).cell (p := ⟨b, o + kk * 3 + 2, none⟩) hl2).trans V0.out.2.2.2.2.2.2⟩)
                            | go_keep)
                          (first
                            | (go_at_call 42; (with_reducible refine (HFI.out _ ?_).mono ?_); (exact below_drewN (RowKit.Below.refl _ _) _); rintro e w5 ⟨rfl, hb5⟩; have b5 := below_undrew hb5; have v0 := (b5.cell (p := ⟨bf, of_ + k, none⟩) hl0).trans V0.out.1; have v1 := (b5.cell (p := ⟨b, o + j * 3, none⟩) hl1).trans V0.out.2.1; have v2 := (b5.cell (p := ⟨b, o + j * 3 + 1, none⟩) hl1).trans V0.out.2.2.1; have v3 := (b5.cell (p := ⟨b, o + j * 3 + 2, none⟩) hl1).trans V0.out.2.2.2.1; have v4 := (b5.cell (p := ⟨b, o + kk * 3, none⟩) hl2).trans V0.out.2.2.2.2.1; have v5 := (b5.cell (p := ⟨b, o + kk * 3 + 1, none⟩) hl2).trans V0.out.2.2.2.2.2.1; have v6 := (b5.cell (p := ⟨b, o + kk * 3 + 2, none⟩) hl2).trans V0.out.2.2.2.2.2.2; have B5 := Lib.hid b5; have hz5 := b5.size; clear b5 hb5)
                            | (go_at_call 42; (with_reducible refine (HFI.out _ ?_).mono ?_); (exact (below_drewN (RowKit.Below.refl _ _) _).alloc (by simp) _); rintro e w5 ⟨rfl, hb5⟩; have b5 := below_undrew (below_alloc0 hb5); have v0 := (b5.cell (p := ⟨bf, of_ + k, none⟩) hl0).trans V0.out.1; have v1 := (b5.cell (p := ⟨b, o + j * 3, none⟩) hl1).trans V0.out.2.1; have v2 := (b5.cell (p := ⟨b, o + j * 3 + 1, none⟩) hl1).trans V0.out.2.2.1; have v3 := (b5.cell (p := ⟨b, o + j * 3 + 2, none⟩) hl1).trans V0.out.2.2.2.1; have v4 := (b5.cell (p := ⟨b, o + kk * 3, none⟩) hl2).trans V0.out.2.2.2.2.1; have v5 := (b5.cell (p := ⟨b, o + kk * 3 + 1, none⟩) hl2).trans V0.out.2.2.2.2.2.1; have v6 := (b5.cell (p := ⟨b, o + kk * 3 + 2, none⟩) hl2).trans V0.out.2.2.2.2.2.2; have B5 := Lib.hid b5; have hz5 := b5.size; have hDg9 : wr.heap.size ≤ wr.heap.size := Nat.le_refl _; have hx5 : OwnRow w5 wr.heap.size [.int .i64 0, .int .i64 0, .bool false] := (OwnRow.fresh wr.drew #[.int .i64 0, .int .i64 0, .bool false] 34).below hb5 (by simp); have x5 := hx5.cell (j := 0) rfl; have x6 := hx5.cell (j := 1) rfl; have x7 := hx5.cell (j := 2) rfl; have p0 := hx5.free (j := 0) (by simp); have p1 := hx5.free (j := 1) (by simp); have p2 := hx5.free (j := 2) (by simp); have hl5 : wr.heap.size < w5.heap.size := (by have := hb5.size; simp at this; omega); have HX5 := Lib.hid hx5; clear b5 hb5))
                        · rename_i hh
                          clear hh
                          have hx6 := OwnRow.fresh w5 #[.int .i64 0, .int .i64 (f : Int), .bool inv] 34
                          have HW6 := Lib.hid (B5.out.alloc B5.out.size (.cells #[.int .i64 0, .int .i64 (f : Int), .bool inv] 34))
                          have hDl : w5.heap.size < (w5.alloc (.cells #[.int .i64 0, .int .i64 (f : Int), .bool inv] 34)).heap.size := by simp
                          clear v0 v1 v2 v3 v4 v5 v6 u0 y0 y1 y2 z0 z1 z2
                          generalize w5.alloc (.cells #[.int .i64 0, .int .i64 (f : Int), .bool inv] 34) = w6 at hx6 HW6 hDl ⊢
                          have hDg := hz5
                          generalize w5.heap.size = D at hx6 hDl hDg ⊢
                          have HSk6 := Lib.hid (HSk.out.later HW6.out)
                          cases ok
                          · have HT3 := Lib.hid (HTF.out rfl)
                            clear hx6
                            go_wp2_with fail
                            go_roundw
                            case rel => exact ⟨k + 1, none, by omega, rfl, by go_num, HT3.out, HSk6.out⟩
                            case measure => simp [intOf]; omega
                          · have HT3 := Lib.hid (HTT.out rfl)
                            have g0 := hx6.free (j := 0) (by simp)
                            have g1 := hx6.cell (j := 0) rfl
                            have u1 := (HW6.out.cell (p := ⟨bf, of_ + k, none⟩) hl0).trans V0.out.1
                            go_upto_region 27 with fail
                            have hx7 := hx6.set (j := 0) (by simp) (.int .i64 (kk : Int))
                            have HW7 := Lib.hid (HW6.out.setCell (p := ⟨D, 0, none⟩) hDg (.int .i64 (kk : Int)))
                            clear g0 g1 u1 hx6
                            generalize w6.setCell ⟨D, 0, none⟩ (.int .i64 (kk : Int)) = w7 at hx7 HW7 ⊢
                            have HSk7 := Lib.hid (HSk.out.later HW7.out)
                            obtain ⟨⟨k0, k1, k2⟩, f0, f1, f2⟩ := HSk7.out.cells (j := j) (d := ((j : Int), 0, false)) (by rw [List.getElem?_set_self hpd])
                            dsimp only at k0 k1 k2
                            have c0 := hx7.cell (j := 0) rfl
                            have c1 := hx7.cell (j := 1) rfl
                            have c2 := hx7.cell (j := 2) rfl
                            have HSk8 := Lib.hid (show RfSt w F (F + 1) (((w7.setCell ⟨F + 1, j * 3, none⟩ (.int .i64 (kk : Int))).setCell ⟨F + 1, j * 3 + 1, none⟩ (.int .i64 (f : Int))).setCell ⟨F + 1, j * 3 + 2, none⟩ (.bool inv)) (.slice (some ⟨bf, of_, none⟩) st.length cf) st (ds.set j ((kk : Int), (f : Int), inv)) by
                              have := HSk7.out.put (j := j) (by rw [List.length_set]; exact hpd) ((kk : Int), (f : Int), inv)
                              rw [List.set_set] at this
                              exact this)
                            clear hx7
                            go_wp2_with fail
                            go_roundw
                            case rel => exact ⟨k + 1, some ((kk : Int), (f : Int), inv), by omega, rfl, by go_num, HT3.out, HSk8.out⟩
                            case measure => simp [intOf]; omega
                        · rename_i hh
                          clear hh
                          have hx6 := ((HX5.out.set (j := 0) (by simp) (.int .i64 0)).set (j := 1) (by simp) (.int .i64 (f : Int))).set (j := 2) (by simp) (.bool inv)
                          have HW6 := Lib.hid (below_set3' B5.out hDg9 (.int .i64 0) (.int .i64 (f : Int)) (.bool inv))
                          have hDl : wr.heap.size < (((w5.setCell ⟨wr.heap.size, 0, none⟩ (.int .i64 0)).setCell ⟨wr.heap.size, 1, none⟩ (.int .i64 (f : Int))).setCell ⟨wr.heap.size, 2, none⟩ (.bool inv)).heap.size := by simpa using hl5
                          clear v0 v1 v2 v3 v4 v5 v6 u0 y0 y1 y2 z0 z1 z2 hx5 x5 x6 x7 p0 p1 p2
                          generalize ((w5.setCell ⟨wr.heap.size, 0, none⟩ (.int .i64 0)).setCell ⟨wr.heap.size, 1, none⟩ (.int .i64 (f : Int))).setCell ⟨wr.heap.size, 2, none⟩ (.bool inv) = w6 at hx6 HW6 hDl ⊢
                          have hDg := hDg9
                          obtain ⟨D, hD⟩ : ∃ D, D = wr.heap.size := ⟨_, rfl⟩
                          rw [← hD] at hx6 hDl ⊢
                          replace hDg : wr.heap.size ≤ D := by omega
                          clear hD
                          have HSk6 := Lib.hid (HSk.out.later HW6.out)
                          cases ok
                          · have HT3 := Lib.hid (HTF.out rfl)
                            clear hx6
                            go_wp2_with fail
                            go_roundw
                            case rel => exact ⟨k + 1, none, by omega, rfl, by go_num, HT3.out, HSk6.out⟩
                            case measure => simp [intOf]; omega
                          · have HT3 := Lib.hid (HTT.out rfl)
                            have g0 := hx6.free (j := 0) (by simp)
                            have g1 := hx6.cell (j := 0) rfl
                            have u1 := (HW6.out.cell (p := ⟨bf, of_ + k, none⟩) hl0).trans V0.out.1
                            go_upto_region 27 with fail
                            have hx7 := hx6.set (j := 0) (by simp) (.int .i64 (kk : Int))
                            have HW7 := Lib.hid (HW6.out.setCell (p := ⟨D, 0, none⟩) hDg (.int .i64 (kk : Int)))
                            clear g0 g1 u1 hx6
                            generalize w6.setCell ⟨D, 0, none⟩ (.int .i64 (kk : Int)) = w7 at hx7 HW7 ⊢
                            have HSk7 := Lib.hid (HSk.out.later HW7.out)
                            obtain ⟨⟨k0, k1, k2⟩, f0, f1, f2⟩ := HSk7.out.cells (j := j) (d := ((j : Int), 0, false)) (by rw [List.getElem?_set_self hpd])
                            dsimp only at k0 k1 k2
                            have c0 := hx7.cell (j := 0) rfl
                            have c1 := hx7.cell (j := 1) rfl
                            have c2 := hx7.cell (j := 2) rfl
                            have HSk8 := Lib.hid (show RfSt w F (F + 1) (((w7.setCell ⟨F + 1, j * 3, none⟩ (.int .i64 (kk : Int))).setCell ⟨F + 1, j * 3 + 1, none⟩ (.int .i64 (f : Int))).setCell ⟨F + 1, j * 3 + 2, none⟩ (.bool inv)) (.slice (some ⟨bf, of_, none⟩) st.length cf) st (ds.set j ((kk : Int), (f : Int), inv)) by
                              have := HSk7.out.put (j := j) (by rw [List.length_set]; exact hpd) ((kk : Int), (f : Int), inv)
                              rw [List.set_set] at this
                              exact this)
                            clear hx7
                            go_wp2_with fail
                            go_roundw
                            case rel => exact ⟨k + 1, some ((kk : Int), (f : Int), inv), by omega, rfl, by go_num, HT3.out, HSk8.out⟩
                            case measure => simp [intOf]; omega
                      · obtain rfl : k = st.length := by omega
                        have hkd : decide ((st.length : Int) < (st.length : Int)) = false := by rw [decide_eq_false_iff_not]; omega
                        have HP2 := Lib.hid (show RfP (L.map Prod.fst) (procW (L.map Prod.fst) q (j + 1)) (st ++ [j]) (ds.set j (selfD j)) (q * 8 + j + 1) by rw [procW_eq (by rw [HX.out]; exact HW.out)]; exact HP.out.none (by rw [List.length_map]; exact hlj) (by rw [HX.out]; exact deriveG_none HXL.out HT.out))
                        have hst8 : st.length ≤ 129 * 8 := by have := HP.out.le; omega
                        go_upto_region 29 with fail
                        have HC := Lib.hid (World.news_of_block (w := wr.alloc (.cells #[.int .i64 (j : Int)] 3)) (cs := #[.int .i64 (j : Int)]) (t := 3) (fr := (0, 0)) (by exact heap_alloc_new wr _))
                        have hsF := HSk.out.q
                        have hsW := HSk.out.b.size
                        go_wp2_with (at_builtin; refine wpList_append_own_at _ rfl _ _ 25 rfl F 3 i0 (.int .i64 0) 1 8 Tryz.underlying25 hi iz0 iz1 iz2 rfl (by decide) _ _ _ rfl (World.ownsRow.alloc (by exact HSk.out.f) _) ⟨wr.heap.size, 0, none⟩ 1 1 [.int .i64 (j : Int)] rfl rfl HC.out (by simp [Value.oneCell']) (by unfold maxLen; omega) (by omega) (by simp; omega) ?_)
                        intro v8 w8 ho8 hg8 _ hv8
                        have HS8 := Lib.hid (HSk.out.app rfl ho8 hg8 hv8)
                        clear ho8 hg8 hv8
                        go_wp2_with fail
                        go_roundw
                        case rel => exact ⟨j + 1, st ++ [j], _, by omega, by go_num, HP2.out.mono (by omega), HS8.out⟩
                        case measure => simp [intOf]; omega
              · have hwb : (xn != 128 - (q : Int)) = true := by rw [bne_iff_ne]; exact hw
                have HP2 := Lib.hid (show RfP (L.map Prod.fst) (procW (L.map Prod.fst) q (j + 1)) st ds (q * 8 + j) by rw [procW_ne (by rw [HX.out]; exact hw)]; exact HP.out)
                go_wp2_with fail
                go_roundw
                case rel => exact ⟨j + 1, st, ds, by omega, by go_num, HP2.out.mono (by omega), HSt.out⟩
                case measure => simp [intOf]; omega
            · obtain rfl : j = L.length := by omega
              have HP2 := Lib.hid (show RfP (L.map Prod.fst) (ordW (L.map Prod.fst) (widths (q + 1))) st ds ((q + 1) * 8) by
                have := HP.out
                rw [← procW_end, List.length_map]
                exact this.mono (by omega))
              go_wp2_with fail
              go_roundw
              case rel => exact ⟨q + 1, st, ds, by omega, by rw [show (128 : Int) - ((q + 1 : Nat) : Int) = 128 - (q : Int) - 1 by omega], HP2.out, HSt.out⟩
              case measure => simp [intOf]; omega
        · obtain rfl : q = 129 := by omega
          have hqd : decide ((128 : Int) - ((129 : Nat) : Int) ≥ 0) = false := by decide
          have hrun : runG (L.map Prod.fst) (ordG (L.map Prod.fst)) = (st, ds) := HP.out.run
          have hAV : AllV (L.map Prod.fst) := allV_of (by rw [List.all_map]; exact HALL.out)
          have HSR := Lib.hid (show storedG (L.map Prod.fst) ds = storedR (L.map Prod.fst) by rw [← storedG_eq, ← runG_eq hAV, hrun])
          have HDR := Lib.hid (show ds.map (renG (storedG (L.map Prod.fst) ds)) = dersR (L.map Prod.fst) by have := findG_eq hAV; rw [hrun] at this; exact this)
          have HF2 := Lib.hid (show findR (L.map Prod.fst) = (storedR (L.map Prod.fst), dersR (L.map Prod.fst)) by unfold findR; rw [List.all_map, if_pos (show L.all (svS ∘ Prod.fst) = true from HALL.out)])
          have HDL := Lib.hid (show ds.length = L.length by rw [HP.out.len, List.length_map])
          have hs5 := HSt.out.fresh
          clear hrun hAV
          go_wp2_with fail
          clear hqd
          have HS5 := Lib.hid hs5
          clear hs5 HSt HP
          generalize wr.alloc (.cells #[] 3) = w5 at HS5 ⊢
          generalize wr.heap.size = B5 at HS5 ⊢
          go_loopw [13, 14] (fun s_ i_ wq => ∃ (j : Nat), j ≤ L.length ∧ i_ = .int .i64 j ∧ RfSt w B5 (F + 1) wq s_ (stoT (L.map Prod.fst) ds j) ds) (fun _ i_ _ => L.length - (intOf i_).toNat)
          case atStart => exact ⟨0, Nat.zero_le _, rfl, HS5.out⟩
          case round =>
            obtain ⟨j, hj, rfl, hs⟩ := hrel
            obtain ⟨a5, c5, rfl, -, -⟩ := (SlR.of_own hs.f).shape
            have HSQ := Lib.hid hs
            clear hs HS5
            by_cases hlj : j < L.length
            · have hpd : j < ds.length := by rw [HDL.out]; exact hlj
              obtain ⟨b3, o3, hb3, y0, y1, y2, hy⟩ := (HS.out.below HSQ.out.b).at hlj
              subst hb3
              have HX := Lib.hid (show sgAt (L.map Prod.fst) j = L[j].1 by rw [sgAt_lt (by simpa using hlj)]; simp)
              generalize L[j] = x at y0 y1 y2 hy HX
              obtain ⟨⟨xk, xn, xl⟩, xv⟩ := x
              dsimp only at y0 y1 y2 hy HX
              obtain ⟨xa, xc, rfl, -, -⟩ := hy.shape
              have hdj := List.getElem?_eq_getElem hpd
              generalize ds[j] = d at hdj
              obtain ⟨d0, d1, d2⟩ := d
              obtain ⟨⟨k0, k1, k2⟩, f0, f1, f2⟩ := HSQ.out.cells hdj
              dsimp only at k0 k1 k2
              have HDJ := Lib.hid hdj
              clear hy hdj
              by_cases e0 : d0 = (j : Int)
              · by_cases e1 : d1 = 0
                · cases d2
                  · subst e0 e1
                    by_cases hxl : xl = []
                    · have hlb : decide (0 < xl.length) = false := by rw [hxl]; rfl
                      have hlb2 : decide ((0 : Int) < (xl.length : Int)) = false := by rw [hxl]; rfl
                      have HN := Lib.hid (show stoT (L.map Prod.fst) ds (j + 1) = stoT (L.map Prod.fst) ds j from stoT_no (by unfold stoK; rw [HX.out, decide_eq_true hxl, Bool.not_true, Bool.and_false]))
                      clear hxl
                      go_wp2_with fail
                      go_roundw
                      case rel => exact ⟨j + 1, by omega, by go_num, by rw [HN.out]; exact HSQ.out⟩
                      case measure => simp [intOf]; omega
                    · have hlb : decide (0 < xl.length) = true := by rw [decide_eq_true_iff]; exact List.length_pos_iff.2 hxl
                      have hlb2 : decide ((0 : Int) < (xl.length : Int)) = true := by rw [decide_eq_true_iff]; have := List.length_pos_iff.2 hxl; omega
                      have HN := Lib.hid (show stoT (L.map Prod.fst) ds (j + 1) = stoT (L.map Prod.fst) ds j ++ [j] from stoT_yes (by unfold stoK; rw [HX.out, HDJ.out, decide_eq_false hxl, Bool.not_false, Bool.and_true, decide_eq_true_iff]; rfl))
                      have hst8 := stoT_le (L.map Prod.fst) ds j
                      clear hxl
                      go_upto_region 35 with fail
                      have HC := Lib.hid (World.news_of_block (w := wr.alloc (.cells #[.int .i64 (j : Int)] 3)) (cs := #[.int .i64 (j : Int)]) (t := 3) (fr := (0, 0)) (by exact heap_alloc_new wr _))
                      have hsF := HSQ.out.q
                      have hsW := HSQ.out.b.size
                      clear k0 k1 k2 f0 f1 f2 y0 y1 y2
                      generalize stoT (L.map Prod.fst) ds j = st5 at HSQ HN hst8 ⊢
                      go_wp2_with (at_builtin; refine wpList_append_own_at _ rfl _ _ 25 rfl B5 3 i0 (.int .i64 0) 1 8 Tryz.underlying25 hi iz0 iz1 iz2 rfl (by decide) _ _ _ rfl (World.ownsRow.alloc (by exact HSQ.out.f) _) ⟨wr.heap.size, 0, none⟩ 1 1 [.int .i64 (j : Int)] rfl rfl HC.out (by simp [Value.oneCell']) (by unfold maxLen; omega) (by omega) (by simp; omega) ?_)
                      intro v8 w8 ho8 hg8 _ hv8
                      have HS8 := Lib.hid (HSQ.out.app rfl ho8 hg8 hv8)
                      clear ho8 hg8 hv8
                      go_wp2_with fail
                      go_roundw
                      case rel =>
                        (repeat apply Exists.intro)
                        exact ⟨⟨j + 1, by omega, by go_num, by rw [HN.out]; exact HS8.out⟩, rfl⟩
                      case measure => simp [intOf]; omega
                  · have HN := Lib.hid (show stoT (L.map Prod.fst) ds (j + 1) = stoT (L.map Prod.fst) ds j from stoT_no (by unfold stoK; rw [HDJ.out, decide_eq_false (by unfold selfD; intro h; have h := congrArg (fun o : Option Dv => o.map (fun d : Dv => d.2.2)) h; simp at h), Bool.false_and]))
                    go_wp2_with fail
                    go_roundw
                    case rel => exact ⟨j + 1, by omega, by go_num, by rw [HN.out]; exact HSQ.out⟩
                    case measure => simp [intOf]; omega
                · have e1b : (d1 == 0) = false := by rw [beq_eq_false_iff_ne]; exact e1
                  have HN := Lib.hid (show stoT (L.map Prod.fst) ds (j + 1) = stoT (L.map Prod.fst) ds j from stoT_no (by unfold stoK; rw [HDJ.out, decide_eq_false (by unfold selfD; intro h; have h := congrArg (fun o : Option Dv => o.map (fun d : Dv => d.2.1)) h; simp at h; exact e1 h), Bool.false_and]))
                  subst e0
                  clear e1
                  go_wp2_with fail
                  go_roundw
                  case rel => exact ⟨j + 1, by omega, by go_num, by rw [HN.out]; exact HSQ.out⟩
                  case measure => simp [intOf]; omega
              · have e0b : (d0 == (j : Int)) = false := by rw [beq_eq_false_iff_ne]; exact e0
                have HN := Lib.hid (show stoT (L.map Prod.fst) ds (j + 1) = stoT (L.map Prod.fst) ds j from stoT_no (by unfold stoK; rw [HDJ.out, decide_eq_false (by unfold selfD; intro h; have h := congrArg (fun o : Option Dv => o.map (fun d : Dv => d.1)) h; simp at h; exact e0 h), Bool.false_and]))
                clear e0
                go_wp2_with fail
                go_roundw
                case rel => exact ⟨j + 1, by omega, by go_num, by rw [HN.out]; exact HSQ.out⟩
                case measure => simp [intOf]; omega
            · obtain rfl : j = L.length := by omega
              have hlm : stoT (L.map Prod.fst) ds L.length = storedG (L.map Prod.fst) ds := by rw [← stoT_end, List.length_map]
              have hsl := stoT_le (L.map Prod.fst) ds L.length
              have hs6 := HSQ.out
              rw [hlm] at hs6 hsl ⊢
              generalize storedG (L.map Prod.fst) ds = ST at hs6 hsl HSR HDR ⊢
              have HS6 := Lib.hid hs6
              clear hs6 hlm HSQ
              go_wp2_with fail
              go_loopw [15] (fun i_ wq => ∃ (p : Nat), p ≤ L.length ∧ i_ = .int .i64 p ∧ RfSt w B5 (F + 1) wq (.slice a5 ST.length c5) ST (renGL ST ds p)) (fun i_ _ => L.length - (intOf i_).toNat)
              case atStart => exact ⟨0, Nat.zero_le _, rfl, by have := HS6.out; simpa [renGL] using this⟩
              case round =>
                obtain ⟨p, hp, rfl, hs⟩ := hrel
                have HSP := Lib.hid hs
                clear hs HS6
                by_cases hlp : p < L.length
                · have hpd : p < ds.length := by rw [HDL.out]; exact hlp
                  have HAT := Lib.hid (renGL_at (ST := ST) hpd)
                  have HSTP := Lib.hid (renGL_step (ST := ST) hpd)
                  have HLR := Lib.hid (renGL_len ST ds p)
                  generalize renGL ST ds p = R at HSP HAT HSTP HLR
                  generalize ds[p] = d at HAT HSTP
                  obtain ⟨d0, d1, d2⟩ := d
                  go_wp2_with fail
                  go_loopw [16] (fun k_ wk => ∃ (k : Nat), k ≤ ST.length ∧ k_ = .int .i64 k ∧ (∀ i (hi : i < ST.length), i < k → ((ST[i] : Nat) : Int) ≠ d0) ∧ RfSt w B5 (F + 1) wk (.slice a5 ST.length c5) ST R) (fun k_ _ => ST.length - (intOf k_).toNat)
                  case atStart => exact ⟨0, Nat.zero_le _, rfl, by omega, HSP.out⟩
                  case round =>
                    obtain ⟨k, hk, rfl, hne, hs⟩ := hrel
                    have HNE := Lib.hid hne
                    have HSK := Lib.hid hs
                    clear hne hs HSP
                    obtain ⟨⟨k0, k1, k2⟩, f0, f1, f2⟩ := HSK.out.cells HAT.out
                    dsimp only at k0 k1 k2
                    by_cases hlk : k < ST.length
                    · obtain ⟨bf, of_, cf', hvf, -, -, hcf⟩ := (SlR.of_own HSK.out.f).at (by omega)
                      injection hvf with ev1 ev2 ev3
                      subst ev1
                      clear ev2 ev3
                      obtain ⟨kk, hkk⟩ : ∃ kk, ST[k] = kk := ⟨_, rfl⟩
                      have u0 := hcf k (.int .i64 (kk : Int)) (by simp [nats, hlk, hkk])
                      clear hcf
                      by_cases he : (kk : Int) = d0
                      · have HN := Lib.hid (renG_hit (d := (d0, d1, d2)) hlk HNE.out (by rw [hkk]; exact he))
                        have hpr : p < R.length := by rw [HLR.out]; exact hpd
                        have HS9 := Lib.hid (fun n => (HSK.out.drewN n).ofI hpr HAT.out (k : Int))
                        subst he
                        clear hkk
                        go_wp2_with fail
                        go_quiet (fail)
                        go_wp2_with fail
                        go_roundw
                        case rel =>
                          (repeat apply Exists.intro)
                          exact ⟨⟨p + 1, by omega, by go_num, by rw [HSTP.out, HN.out]; exact HS9.out _⟩, rfl⟩
                        case measure => simp [intOf]; omega
                      · have heb : ((kk : Int) == d0) = false := by rw [beq_eq_false_iff_ne]; exact he
                        have HN := Lib.hid (show ∀ i (hi : i < ST.length), i < k + 1 → ((ST[i] : Nat) : Int) ≠ d0 from fun i hi h => by
                          by_cases h2 : i < k
                          · exact HNE.out i hi h2
                          · obtain rfl : i = k := by omega
                            rw [hkk]; exact he)
                        clear hkk he
                        go_wp2_with fail
                        go_quiet (fail)
                        go_wp2_with fail
                        go_roundw
                        case rel => exact ⟨k + 1, by omega, by go_num, HN.out, HSK.out.drewN _⟩
                        case measure => simp [intOf]; omega
                    · obtain rfl : k = ST.length := by omega
                      have HN := Lib.hid (renG_miss (d := (d0, d1, d2)) (fun j hj => HNE.out j hj hj))
                      go_wp2_with fail
                      go_roundw
                      case rel => exact ⟨p + 1, by omega, by go_num, by rw [HSTP.out, HN.out, set_same HAT.out]; exact HSK.out⟩
                      case measure => simp [intOf]; omega
                · obtain rfl : p = L.length := by omega
                  go_wp2_with fail
                  refine bodyPost_ret (v := .tuple #[.slice a5 ST.length c5, .slice (some ⟨F + 1, 0, none⟩) L.length L.length]) (by simp [results, Tryz.results11, go_sem]) rfl ?_
                  rw [HF2.out, ← HSR.out, ← HDR.out]
                  have hrd : OwnRow wr (F + 1) (dvs (ds.map (renG ST))) := by
                    have := HSP.out.o
                    rw [← HDL.out, renGL_end] at this
                    exact this
                  refine ⟨_, _, rfl, ownsRow_base HSP.out.f HSP.out.y.1, ?_, HSP.out.b⟩
                  rw [List.length_map, HDL.out]
                  exact ⟨some ⟨F + 1, 0, none⟩, L.length, rfl, Nat.le_refl _, by unfold maxLen; omega, fun h => by simp at h, fun _ => ⟨F + 1, 0, rfl, fun j u hj => by rw [Nat.zero_add]; exact hrd.cell hj⟩⟩
end Go.Proofs.YtimeilkelnljnaaGreatDoor
