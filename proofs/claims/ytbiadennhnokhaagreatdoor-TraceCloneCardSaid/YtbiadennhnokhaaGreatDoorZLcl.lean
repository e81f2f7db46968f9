/- law23.TraceClone. -/
import Derived.Test.YtbiadennhnokhaaGreatDoorZCz
import Derived.Test.YtbiadennhnokhaaGreatDoorZ39
import Derived.Test.YtbiadennhnokhaaGreatDoorZ40
import Derived.Test.YtbiadennhnokhaaGreatDoorZPr5
import Derived.Handy
import Derived.BigQuiet
import Derived.Deep.RegionHeld3
import Derived.Deep.Cut
namespace Go.Proofs.YtbiadennhnokhaaGreatDoor
open Go.RowKit
set_option linter.unusedSimpArgs false


/-- what the two clones are, behind the region that makes them -/
def CutC (b1 : Nat) (C1 : Array Value) (w3 : World) (t : Tr) (U V : Value) (wc : World) : Prop :=
  ∃ q d D g3 g4 x1 x2 x3 x4 y1 y2 y3 y4 z1 z2 z3 z4 m1 m2 m3 m4, U = .pointer (some ⟨g3, 0, none⟩) ∧ V = .pointer (some ⟨g4, 0, none⟩) ∧
    (TP.v q t = .agg (boxT t x1 x2 x3 x4 y1 y2 y3 y4) ∧ q.vs = .slice x1 t.S.length y1 ∧ q.vv = .slice x2 t.V.length y2 ∧ q.vg = .slice x3 q.M.length y3 ∧ q.vp = .slice x4 t.P.length y4) ∧
    (TP.v d t = .agg (boxT t z1 z2 z3 z4 m1 m2 m3 m4) ∧ d.vs = .slice z1 t.S.length m1 ∧ d.vv = .slice z2 t.V.length m2 ∧ d.vg = .slice z3 d.M.length m3 ∧ d.vp = .slice z4 t.P.length m4) ∧
    CL w3.heap.size D b1 g3 g4 C1 (boxT t x1 x2 x3 x4 y1 y2 y3 y4) (boxT t z1 z2 z3 z4 m1 m2 m3 m4) w3 wc t d t q
set_option maxHeartbeats 12800000 in
set_option maxRecDepth 100000 in
theorem law_TraceClone (t : Tr) (p : TP) (w : World) (ht : TrM w t p) (hi : InT t) (hg : Glob w) (hm : Glm w) :
    Calls Tryz.prog 7 #[p.v t] w fun e w' => e = .returned (.bool true) ∧ Below w.heap.size w w' := by
  obtain ⟨a1, k1, a2, k2, a3, k3, a4, k4, e, -⟩ := ht.open
  have HT := Lib.hid ht
  have HI := Lib.hid hi
  have HG := Lib.hid hg
  have HM := Lib.hid hm
  have HE := Lib.hid e
  have HB1 := Lib.hid (below_new w (boxT t a1 a2 a3 a4 k1 k2 k3 k4) 27)
  have HX1 := Lib.hid (Bx.new w (boxT t a1 a2 a3 a4 k1 k2 k3 k4) 27)
  rw [e]
  clear ht hi hg hm e
  go_enter Tryz.func7, Tryz.ntmps7
  go_wp2_with fail
  generalize w.alloc (.cells (boxT t a1 a2 a3 a4 k1 k2 k3 k4) 27) = w1 at *
  refine (law_awake23 w1 (HG.out.below HB1.out) (HM.out.below HB1.out)).mono ?_
  rintro e w2 ⟨rfl, hb2⟩
  have HB2 := Lib.hid (ext_trans HB1.out hb2)
  have HX2 := Lib.hid (HX1.out.step hb2)
  obtain ⟨p0, p1, p2, p3, p4, p5, p6, p7, p8⟩ := HX2.out.nine
  have hfw := rf_Few23 t p 60 w2 (HT.out.below HB2.out) (by decide) ⟨by have := HI.out.tx; omega, by have := HI.out.tx; omega, by have := HI.out.tx; omega⟩
  rw [HE.out] at hfw
  have HFW := Lib.hid hfw
  clear hb2 hfw
  rcases Bool.eq_false_or_eq_true (fewT t 60) with hfew | hfew
  rotate_left
  · rw [hfew] at HFW
    clear hfew
    go_wp2_with fail
    refine HFW.out.mono ?_
    rintro e w3 ⟨rfl, hb3⟩
    have HB3 := Lib.hid (ext_trans HB2.out hb3)
    clear hb3
    go_wp2_with fail
    go_ret
    exact ⟨rfl, HB3.out⟩
  have HV := Lib.hid (few_fit (by decide) (by decide) hfew (fun x hx => (HI.out.v x hx).2.2.2.1) (fun s hs c hc => ((HI.out.g s hs).2.2 c hc).1))
  rw [hfew] at HFW
  clear hfew
  go_wp2_with fail
  refine HFW.out.mono ?_
  rintro e w3 ⟨rfl, hb3⟩
  have HB3 := Lib.hid (ext_trans HB2.out hb3)
  have HX3 := Lib.hid (HX2.out.step hb3)
  clear p0 p1 p2 p3 p4 p5 p6 p7 p8 hb3
  have hCC := fun W (hW : Below w3.heap.size w3 W) => tr_Clone t p W (HT.out.below (ext_trans HB3.out hW)) HV.out.ft
  rw [HE.out] at hCC
  have HCC := Lib.hid hCC
  clear hCC HFW
  go_upto_region 5 with fail
  go_cut [3, 4] from 15 to 18 (fun U V wc => CutC w.heap.size (boxT t a1 a2 a3 a4 k1 k2 k3 k4) w3 t U V wc)
  case first =>
    refine wp_region_held_drew (S := (fun w' => w'.cell? ⟨w.heap.size, 0, none⟩ = some (.int .i64 t.sc) ∧ w'.cell? ⟨w.heap.size, 1, none⟩ = some (.string (bsB t.dt)) ∧ w'.cell? ⟨w.heap.size, 2, none⟩ = some (.string (bsB t.vn)) ∧ w'.cell? ⟨w.heap.size, 3, none⟩ = some (.string (bsB t.cm)) ∧ w'.cell? ⟨w.heap.size, 4, none⟩ = some (.slice a1 t.S.length k1) ∧ w'.cell? ⟨w.heap.size, 5, none⟩ = some (.slice a2 t.V.length k2) ∧ w'.cell? ⟨w.heap.size, 6, none⟩ = some (.slice a3 t.G.length k3) ∧ w'.cell? ⟨w.heap.size, 7, none⟩ = some (.slice a4 t.P.length k4) ∧ w'.cell? ⟨w.heap.size, 8, none⟩ = some (.int .i64 t.en))) (by kernel_rfl) (HX3.out.step (Below.refl _ _).drew).nine (fun hHeld => ?_)
    have st := Lib.hid (show St5 w.heap.size (boxT t a1 a2 a3 a4 k1 k2 k3 k4) w3 w3.drew t none none none none from ⟨(Below.refl _ _).drew, HX3.out.step (Below.refl _ _).drew, HX3.out.2, fun _ h => (by cases h), fun _ h => (by cases h), fun _ _ h => (by cases h), fun _ _ h => (by cases h), fun _ _ _ h => (by cases h)⟩)
    generalize w3.drew = W0 at *
    refine wpAnyH_take (i := 0) (v := ?_) rfl (by kernel_rfl) (by kernel_rfl) (by kernel_rfl) (fun _ _ _ h => h) (Or.inl ⟨by rfl, ?_⟩) hHeld ?_
    rotate_left
    · intro w hSw
      (try dsimp only at hSw)
      go_simp
      all_goals with_reducible rfl
    simp only [Act.put, List.getElem_toArray, List.getElem_cons_succ, List.getElem_cons_zero, List.setIfInBounds_toArray, List.set_cons_zero, List.set_cons_succ]
    refine wpAnyH_take (i := 2) (v := ?_) rfl (by kernel_rfl) (by kernel_rfl) (by kernel_rfl) (fun _ _ _ h => h) (Or.inl ⟨by rfl, ?_⟩) hHeld ?_
    rotate_left
    · intro w hSw
      (try dsimp only at hSw)
      go_simp
      all_goals with_reducible rfl
    simp only [Act.put, List.getElem_toArray, List.getElem_cons_succ, List.getElem_cons_zero, List.setIfInBounds_toArray, List.set_cons_zero, List.set_cons_succ]
    refine wpAnyH_ready (rs := [1, 4, 5]) (by kernel_rfl) (by simp) ?_
    refine AllReadyH.cons (o := _) rfl (fun K hK => ?_) (AllReadyH.cons (o := _) rfl (fun K hK => ?_) (AllReadyH.cons (o := _) rfl (fun K hK => ?_) (AllReadyH.nil)))
    · skip
      go_simp
      refine (HCC.out W0 st.out.b).mono ?_
      rintro e V0 ⟨q1, rfl, hq, hb⟩
      obtain ⟨x1, y1, x2, y2, x3, y3, x4, y4, e1, i1, i2, i3, i4, -⟩ := hq.m0.open
      rw [e1]
      have HQ1 := Lib.hid (And.intro e1 (And.intro i1 (And.intro i2 (And.intro i3 i4))))
      replace st := Lib.hid (st.out.k1 hq hb)
      clear hHeld hq hb e1 i1 i2 i3 i4
      go_wp2_with fail
      refine hK.out _ _ st.out.x.nine (fun hHeld => ?_)
      clear hK
      try simp only [Act.put, List.getElem_toArray, List.getElem_cons_succ, List.getElem_cons_zero, List.setIfInBounds_toArray, List.set_cons_zero, List.set_cons_succ]
      refine wpAnyH_ready (rs := [3, 4, 5]) (by kernel_rfl) (by simp) ?_
      refine AllReadyH.cons (o := _) rfl (fun K hK => ?_) (AllReadyH.cons (o := _) rfl (fun K hK => ?_) (AllReadyH.cons (o := _) rfl (fun K hK => ?_) (AllReadyH.nil)))
      · skip
        go_simp
        refine (HCC.out V0 st.out.b).mono ?_
        rintro e V1 ⟨q2, rfl, hq, hb⟩
        obtain ⟨u1, v1, u2, v2, u3, v3, u4, v4, e1, i1, i2, i3, i4, -⟩ := hq.m0.open
        rw [e1]
        have HQ2 := Lib.hid (And.intro e1 (And.intro i1 (And.intro i2 (And.intro i3 i4))))
        replace st := Lib.hid (st.out.k2 hq hb)
        clear hHeld hq hb e1 i1 i2 i3 i4
        go_wp2_with fail
        refine hK.out _ _ st.out.x.nine (fun hHeld => ?_)
        clear hK
        try simp only [Act.put, List.getElem_toArray, List.getElem_cons_succ, List.getElem_cons_zero, List.setIfInBounds_toArray, List.set_cons_zero, List.set_cons_succ]
        refine wpAnyH_ready (rs := [4, 5]) (by kernel_rfl) (by simp) ?_
        refine AllReadyH.cons (o := _) rfl (fun K hK => ?_) (AllReadyH.cons (o := _) rfl (fun K hK => ?_) (AllReadyH.nil))
        · skip
          go_simp
          have st2 := st.out.a3
          generalize V1.alloc (.cells #[.int .i64 0, .string ⟨#[]⟩, .string ⟨#[]⟩, .string ⟨#[]⟩, .slice none 0 0, .slice none 0 0, .slice none 0 0, .slice none 0 0, .int .i64 0] 27) = V2 at st2 ⊢
          generalize V1.heap.size = g3 at st2 ⊢
          replace st := Lib.hid st2
          clear st2 hHeld
          refine hK.out _ _ st.out.x.nine (fun hHeld => ?_)
          clear hK
          try simp only [Act.put, List.getElem_toArray, List.getElem_cons_succ, List.getElem_cons_zero, List.setIfInBounds_toArray, List.set_cons_zero, List.set_cons_succ]
          refine wpAnyH_ready (rs := [5]) (by kernel_rfl) (by simp) ?_
          refine AllReadyH.cons (o := _) rfl (fun K hK => ?_) (AllReadyH.nil)
          go_simp
          have st2 := st.out.a4
          generalize V2.alloc (.cells #[.int .i64 0, .string ⟨#[]⟩, .string ⟨#[]⟩, .string ⟨#[]⟩, .slice none 0 0, .slice none 0 0, .slice none 0 0, .slice none 0 0, .int .i64 0] 27) = V3 at st2 ⊢
          generalize V2.heap.size = g4 at st2 ⊢
          replace st := Lib.hid st2
          clear st2 hHeld
          refine hK.out _ _ st.out.x.nine (fun hHeld => ?_)
          clear hK
          try simp only [Act.put, List.getElem_toArray, List.getElem_cons_succ, List.getElem_cons_zero, List.setIfInBounds_toArray, List.set_cons_zero, List.set_cons_succ]
          have cl := Lib.hid st.out.cl
          clear st
          have c0 := (cl.out.o.y.1).cell (j := 0) rfl
          have c1 := (cl.out.o.y.1).cell (j := 1) rfl
          have c2 := (cl.out.o.y.1).cell (j := 2) rfl
          have c3 := (cl.out.o.y.1).cell (j := 3) rfl
          have c4 := (cl.out.o.y.1).cell (j := 4) rfl
          have c5 := (cl.out.o.y.1).cell (j := 5) rfl
          have c6 := (cl.out.o.y.1).cell (j := 6) rfl
          have c7 := (cl.out.o.y.1).cell (j := 7) rfl
          have c8 := (cl.out.o.y.1).cell (j := 8) rfl
          have f0 := (cl.out.o.y.1).free (j := 0) (by simp)
          have f1 := (cl.out.o.y.1).free (j := 1) (by simp)
          have f2 := (cl.out.o.y.1).free (j := 2) (by simp)
          have f3 := (cl.out.o.y.1).free (j := 3) (by simp)
          have f4 := (cl.out.o.y.1).free (j := 4) (by simp)
          have f5 := (cl.out.o.y.1).free (j := 5) (by simp)
          have f6 := (cl.out.o.y.1).free (j := 6) (by simp)
          have f7 := (cl.out.o.y.1).free (j := 7) (by simp)
          have f8 := (cl.out.o.y.1).free (j := 8) (by simp)
          refine wpAnyH_ready (rs := [6]) (by kernel_rfl) (by simp) ?_
          refine AllReadyH.cons (o := _) rfl (fun K hK => ?_) AllReadyH.nil
          go_simp
          have cl2 := cl.out.box3 rfl (.int .i64 t.sc) (.string (bsB t.dt)) (.string (bsB t.vn)) (.string (bsB t.cm)) (.slice x1 t.S.length y1) (.slice x2 t.V.length y2) (.slice x3 t.G.length y3) (.slice x4 t.P.length y4) (.int .i64 t.en)
          unfold set9 at cl2
          generalize ((((((((V3.setCell ⟨g3, 0, none⟩ (.int .i64 t.sc)).setCell ⟨g3, 1, none⟩ (.string (bsB t.dt))).setCell ⟨g3, 2, none⟩ (.string (bsB t.vn))).setCell ⟨g3, 3, none⟩ (.string (bsB t.cm))).setCell ⟨g3, 4, none⟩ (.slice x1 t.S.length y1)).setCell ⟨g3, 5, none⟩ (.slice x2 t.V.length y2)).setCell ⟨g3, 6, none⟩ (.slice x3 t.G.length y3)).setCell ⟨g3, 7, none⟩ (.slice x4 t.P.length y4)).setCell ⟨g3, 8, none⟩ (.int .i64 t.en) = W8 at cl2 ⊢
          clear c0 c1 c2 c3 c4 c5 c6 c7 c8 f0 f1 f2 f3 f4 f5 f6 f7 f8 hHeld
          replace cl := Lib.hid cl2
          clear cl2
          refine hK.out _ _ cl.out.o.x.nine (fun hHeld => ?_)
          clear hK
          try simp only [Act.put, List.getElem_toArray, List.getElem_cons_succ, List.getElem_cons_zero, List.setIfInBounds_toArray, List.set_cons_zero, List.set_cons_succ]
          have c0 := (cl.out.o.z.1).cell (j := 0) rfl
          have c1 := (cl.out.o.z.1).cell (j := 1) rfl
          have c2 := (cl.out.o.z.1).cell (j := 2) rfl
          have c3 := (cl.out.o.z.1).cell (j := 3) rfl
          have c4 := (cl.out.o.z.1).cell (j := 4) rfl
          have c5 := (cl.out.o.z.1).cell (j := 5) rfl
          have c6 := (cl.out.o.z.1).cell (j := 6) rfl
          have c7 := (cl.out.o.z.1).cell (j := 7) rfl
          have c8 := (cl.out.o.z.1).cell (j := 8) rfl
          have f0 := (cl.out.o.z.1).free (j := 0) (by simp)
          have f1 := (cl.out.o.z.1).free (j := 1) (by simp)
          have f2 := (cl.out.o.z.1).free (j := 2) (by simp)
          have f3 := (cl.out.o.z.1).free (j := 3) (by simp)
          have f4 := (cl.out.o.z.1).free (j := 4) (by simp)
          have f5 := (cl.out.o.z.1).free (j := 5) (by simp)
          have f6 := (cl.out.o.z.1).free (j := 6) (by simp)
          have f7 := (cl.out.o.z.1).free (j := 7) (by simp)
          have f8 := (cl.out.o.z.1).free (j := 8) (by simp)
          refine wpAnyH_ready (rs := [7]) (by kernel_rfl) (by simp) ?_
          refine AllReadyH.cons (o := _) rfl (fun K hK => ?_) AllReadyH.nil
          go_simp
          have cl2 := cl.out.box4 rfl (.int .i64 t.sc) (.string (bsB t.dt)) (.string (bsB t.vn)) (.string (bsB t.cm)) (.slice u1 t.S.length v1) (.slice u2 t.V.length v2) (.slice u3 t.G.length v3) (.slice u4 t.P.length v4) (.int .i64 t.en)
          unfold set9 at cl2
          generalize ((((((((W8.setCell ⟨g4, 0, none⟩ (.int .i64 t.sc)).setCell ⟨g4, 1, none⟩ (.string (bsB t.dt))).setCell ⟨g4, 2, none⟩ (.string (bsB t.vn))).setCell ⟨g4, 3, none⟩ (.string (bsB t.cm))).setCell ⟨g4, 4, none⟩ (.slice u1 t.S.length v1)).setCell ⟨g4, 5, none⟩ (.slice u2 t.V.length v2)).setCell ⟨g4, 6, none⟩ (.slice u3 t.G.length v3)).setCell ⟨g4, 7, none⟩ (.slice u4 t.P.length v4)).setCell ⟨g4, 8, none⟩ (.int .i64 t.en) = W9 at cl2 ⊢
          clear c0 c1 c2 c3 c4 c5 c6 c7 c8 f0 f1 f2 f3 f4 f5 f6 f7 f8 hHeld
          replace cl := Lib.hid cl2
          clear cl2
          refine hK.out _ _ cl.out.o.x.nine (fun hHeld => ?_)
          clear hK
          try simp only [Act.put, List.getElem_toArray, List.getElem_cons_succ, List.getElem_cons_zero, List.setIfInBounds_toArray, List.set_cons_zero, List.set_cons_succ]
          refine wpAnyH_done (by kernel_rfl) ?_ _
          clear hHeld
          go_wp2_with fail
          go_meet
          case rel => exact ⟨_, _, _, _, _, _, _, _, _, _, _, _, _, _, _, _, _, _, _, _, _, rfl, rfl, HQ1.out, HQ2.out, cl.out⟩
        · skip
          go_simp
          have st2 := st.out.a4
          generalize V1.alloc (.cells #[.int .i64 0, .string ⟨#[]⟩, .string ⟨#[]⟩, .string ⟨#[]⟩, .slice none 0 0, .slice none 0 0, .slice none 0 0, .slice none 0 0, .int .i64 0] 27) = V2 at st2 ⊢
          generalize V1.heap.size = g4 at st2 ⊢
          replace st := Lib.hid st2
          clear st2 hHeld
          refine hK.out _ _ st.out.x.nine (fun hHeld => ?_)
          clear hK
          try simp only [Act.put, List.getElem_toArray, List.getElem_cons_succ, List.getElem_cons_zero, List.setIfInBounds_toArray, List.set_cons_zero, List.set_cons_succ]
          refine wpAnyH_ready (rs := [4]) (by kernel_rfl) (by simp) ?_
          refine AllReadyH.cons (o := _) rfl (fun K hK => ?_) (AllReadyH.nil)
          go_simp
          have st2 := st.out.a3
          generalize V2.alloc (.cells #[.int .i64 0, .string ⟨#[]⟩, .string ⟨#[]⟩, .string ⟨#[]⟩, .slice none 0 0, .slice none 0 0, .slice none 0 0, .slice none 0 0, .int .i64 0] 27) = V3 at st2 ⊢
          generalize V2.heap.size = g3 at st2 ⊢
          replace st := Lib.hid st2
          clear st2 hHeld
          refine hK.out _ _ st.out.x.nine (fun hHeld => ?_)
          clear hK
          try simp only [Act.put, List.getElem_toArray, List.getElem_cons_succ, List.getElem_cons_zero, List.setIfInBounds_toArray, List.set_cons_zero, List.set_cons_succ]
          have cl := Lib.hid st.out.cl
          clear st
          have c0 := (cl.out.o.y.1).cell (j := 0) rfl
          have c1 := (cl.out.o.y.1).cell (j := 1) rfl
          have c2 := (cl.out.o.y.1).cell (j := 2) rfl
          have c3 := (cl.out.o.y.1).cell (j := 3) rfl
          have c4 := (cl.out.o.y.1).cell (j := 4) rfl
          have c5 := (cl.out.o.y.1).cell (j := 5) rfl
          have c6 := (cl.out.o.y.1).cell (j := 6) rfl
          have c7 := (cl.out.o.y.1).cell (j := 7) rfl
          have c8 := (cl.out.o.y.1).cell (j := 8) rfl
          have f0 := (cl.out.o.y.1).free (j := 0) (by simp)
          have f1 := (cl.out.o.y.1).free (j := 1) (by simp)
          have f2 := (cl.out.o.y.1).free (j := 2) (by simp)
          have f3 := (cl.out.o.y.1).free (j := 3) (by simp)
          have f4 := (cl.out.o.y.1).free (j := 4) (by simp)
          have f5 := (cl.out.o.y.1).free (j := 5) (by simp)
          have f6 := (cl.out.o.y.1).free (j := 6) (by simp)
          have f7 := (cl.out.o.y.1).free (j := 7) (by simp)
          have f8 := (cl.out.o.y.1).free (j := 8) (by simp)
          refine wpAnyH_ready (rs := [6]) (by kernel_rfl) (by simp) ?_
          refine AllReadyH.cons (o := _) rfl (fun K hK => ?_) AllReadyH.nil
          go_simp
          have cl2 := cl.out.box3 rfl (.int .i64 t.sc) (.string (bsB t.dt)) (.string (bsB t.vn)) (.string (bsB t.cm)) (.slice x1 t.S.length y1) (.slice x2 t.V.length y2) (.slice x3 t.G.length y3) (.slice x4 t.P.length y4) (.int .i64 t.en)
          unfold set9 at cl2
          generalize ((((((((V3.setCell ⟨g3, 0, none⟩ (.int .i64 t.sc)).setCell ⟨g3, 1, none⟩ (.string (bsB t.dt))).setCell ⟨g3, 2, none⟩ (.string (bsB t.vn))).setCell ⟨g3, 3, none⟩ (.string (bsB t.cm))).setCell ⟨g3, 4, none⟩ (.slice x1 t.S.length y1)).setCell ⟨g3, 5, none⟩ (.slice x2 t.V.length y2)).setCell ⟨g3, 6, none⟩ (.slice x3 t.G.length y3)).setCell ⟨g3, 7, none⟩ (.slice x4 t.P.length y4)).setCell ⟨g3, 8, none⟩ (.int .i64 t.en) = W8 at cl2 ⊢
          clear c0 c1 c2 c3 c4 c5 c6 c7 c8 f0 f1 f2 f3 f4 f5 f6 f7 f8 hHeld
          replace cl := Lib.hid cl2
          clear cl2
          refine hK.out _ _ cl.out.o.x.nine (fun hHeld => ?_)
          clear hK
          try simp only [Act.put, List.getElem_toArray, List.getElem_cons_succ, List.getElem_cons_zero, List.setIfInBounds_toArray, List.set_cons_zero, List.set_cons_succ]
          have c0 := (cl.out.o.z.1).cell (j := 0) rfl
          have c1 := (cl.out.o.z.1).cell (j := 1) rfl
          have c2 := (cl.out.o.z.1).cell (j := 2) rfl
          have c3 := (cl.out.o.z.1).cell (j := 3) rfl
          have c4 := (cl.out.o.z.1).cell (j := 4) rfl
          have c5 := (cl.out.o.z.1).cell (j := 5) rfl
          have c6 := (cl.out.o.z.1).cell (j := 6) rfl
          have c7 := (cl.out.o.z.1).cell (j := 7) rfl
          have c8 := (cl.out.o.z.1).cell (j := 8) rfl
          have f0 := (cl.out.o.z.1).free (j := 0) (by simp)
          have f1 := (cl.out.o.z.1).free (j := 1) (by simp)
          have f2 := (cl.out.o.z.1).free (j := 2) (by simp)
          have f3 := (cl.out.o.z.1).free (j := 3) (by simp)
          have f4 := (cl.out.o.z.1).free (j := 4) (by simp)
          have f5 := (cl.out.o.z.1).free (j := 5) (by simp)
          have f6 := (cl.out.o.z.1).free (j := 6) (by simp)
          have f7 := (cl.out.o.z.1).free (j := 7) (by simp)
          have f8 := (cl.out.o.z.1).free (j := 8) (by simp)
          refine wpAnyH_ready (rs := [7]) (by kernel_rfl) (by simp) ?_
          refine AllReadyH.cons (o := _) rfl (fun K hK => ?_) AllReadyH.nil
          go_simp
          have cl2 := cl.out.box4 rfl (.int .i64 t.sc) (.string (bsB t.dt)) (.string (bsB t.vn)) (.string (bsB t.cm)) (.slice u1 t.S.length v1) (.slice u2 t.V.length v2) (.slice u3 t.G.length v3) (.slice u4 t.P.length v4) (.int .i64 t.en)
          unfold set9 at cl2
          generalize ((((((((W8.setCell ⟨g4, 0, none⟩ (.int .i64 t.sc)).setCell ⟨g4, 1, none⟩ (.string (bsB t.dt))).setCell ⟨g4, 2, none⟩ (.string (bsB t.vn))).setCell ⟨g4, 3, none⟩ (.string (bsB t.cm))).setCell ⟨g4, 4, none⟩ (.slice u1 t.S.length v1)).setCell ⟨g4, 5, none⟩ (.slice u2 t.V.length v2)).setCell ⟨g4, 6, none⟩ (.slice u3 t.G.length v3)).setCell ⟨g4, 7, none⟩ (.slice u4 t.P.length v4)).setCell ⟨g4, 8, none⟩ (.int .i64 t.en) = W9 at cl2 ⊢
          clear c0 c1 c2 c3 c4 c5 c6 c7 c8 f0 f1 f2 f3 f4 f5 f6 f7 f8 hHeld
          replace cl := Lib.hid cl2
          clear cl2
          refine hK.out _ _ cl.out.o.x.nine (fun hHeld => ?_)
          clear hK
          try simp only [Act.put, List.getElem_toArray, List.getElem_cons_succ, List.getElem_cons_zero, List.setIfInBounds_toArray, List.set_cons_zero, List.set_cons_succ]
          refine wpAnyH_done (by kernel_rfl) ?_ _
          clear hHeld
          go_wp2_with fail
          go_meet
          case rel => exact ⟨_, _, _, _, _, _, _, _, _, _, _, _, _, _, _, _, _, _, _, _, _, rfl, rfl, HQ1.out, HQ2.out, cl.out⟩
      · skip
        go_simp
        have st2 := st.out.a3
        generalize V0.alloc (.cells #[.int .i64 0, .string ⟨#[]⟩, .string ⟨#[]⟩, .string ⟨#[]⟩, .slice none 0 0, .slice none 0 0, .slice none 0 0, .slice none 0 0, .int .i64 0] 27) = V1 at st2 ⊢
        generalize V0.heap.size = g3 at st2 ⊢
        replace st := Lib.hid st2
        clear st2 hHeld
        refine hK.out _ _ st.out.x.nine (fun hHeld => ?_)
        clear hK
        try simp only [Act.put, List.getElem_toArray, List.getElem_cons_succ, List.getElem_cons_zero, List.setIfInBounds_toArray, List.set_cons_zero, List.set_cons_succ]
        refine wpAnyH_ready (rs := [3, 5]) (by kernel_rfl) (by simp) ?_
        refine AllReadyH.cons (o := _) rfl (fun K hK => ?_) (AllReadyH.cons (o := _) rfl (fun K hK => ?_) (AllReadyH.nil))
        · skip
          go_simp
          refine (HCC.out V1 st.out.b).mono ?_
          rintro e V2 ⟨q2, rfl, hq, hb⟩
          obtain ⟨u1, v1, u2, v2, u3, v3, u4, v4, e1, i1, i2, i3, i4, -⟩ := hq.m0.open
          rw [e1]
          have HQ2 := Lib.hid (And.intro e1 (And.intro i1 (And.intro i2 (And.intro i3 i4))))
          replace st := Lib.hid (st.out.k2 hq hb)
          clear hHeld hq hb e1 i1 i2 i3 i4
          go_wp2_with fail
          refine hK.out _ _ st.out.x.nine (fun hHeld => ?_)
          clear hK
          try simp only [Act.put, List.getElem_toArray, List.getElem_cons_succ, List.getElem_cons_zero, List.setIfInBounds_toArray, List.set_cons_zero, List.set_cons_succ]
          refine wpAnyH_ready (rs := [5]) (by kernel_rfl) (by simp) ?_
          refine AllReadyH.cons (o := _) rfl (fun K hK => ?_) (AllReadyH.nil)
          go_simp
          have st2 := st.out.a4
          generalize V2.alloc (.cells #[.int .i64 0, .string ⟨#[]⟩, .string ⟨#[]⟩, .string ⟨#[]⟩, .slice none 0 0, .slice none 0 0, .slice none 0 0, .slice none 0 0, .int .i64 0] 27) = V3 at st2 ⊢
          generalize V2.heap.size = g4 at st2 ⊢
          replace st := Lib.hid st2
          clear st2 hHeld
          refine hK.out _ _ st.out.x.nine (fun hHeld => ?_)
          clear hK
          try simp only [Act.put, List.getElem_toArray, List.getElem_cons_succ, List.getElem_cons_zero, List.setIfInBounds_toArray, List.set_cons_zero, List.set_cons_succ]
          have cl := Lib.hid st.out.cl
          clear st
          have c0 := (cl.out.o.y.1).cell (j := 0) rfl
          have c1 := (cl.out.o.y.1).cell (j := 1) rfl
          have c2 := (cl.out.o.y.1).cell (j := 2) rfl
          have c3 := (cl.out.o.y.1).cell (j := 3) rfl
          have c4 := (cl.out.o.y.1).cell (j := 4) rfl
          have c5 := (cl.out.o.y.1).cell (j := 5) rfl
          have c6 := (cl.out.o.y.1).cell (j := 6) rfl
          have c7 := (cl.out.o.y.1).cell (j := 7) rfl
          have c8 := (cl.out.o.y.1).cell (j := 8) rfl
          have f0 := (cl.out.o.y.1).free (j := 0) (by simp)
          have f1 := (cl.out.o.y.1).free (j := 1) (by simp)
          have f2 := (cl.out.o.y.1).free (j := 2) (by simp)
          have f3 := (cl.out.o.y.1).free (j := 3) (by simp)
          have f4 := (cl.out.o.y.1).free (j := 4) (by simp)
          have f5 := (cl.out.o.y.1).free (j := 5) (by simp)
          have f6 := (cl.out.o.y.1).free (j := 6) (by simp)
          have f7 := (cl.out.o.y.1).free (j := 7) (by simp)
          have f8 := (cl.out.o.y.1).free (j := 8) (by simp)
          refine wpAnyH_ready (rs := [6]) (by kernel_rfl) (by simp) ?_
          refine AllReadyH.cons (o := _) rfl (fun K hK => ?_) AllReadyH.nil
          go_simp
          have cl2 := cl.out.box3 rfl (.int .i64 t.sc) (.string (bsB t.dt)) (.string (bsB t.vn)) (.string (bsB t.cm)) (.slice x1 t.S.length y1) (.slice x2 t.V.length y2) (.slice x3 t.G.length y3) (.slice x4 t.P.length y4) (.int .i64 t.en)
          unfold set9 at cl2
          generalize ((((((((V3.setCell ⟨g3, 0, none⟩ (.int .i64 t.sc)).setCell ⟨g3, 1, none⟩ (.string (bsB t.dt))).setCell ⟨g3, 2, none⟩ (.string (bsB t.vn))).setCell ⟨g3, 3, none⟩ (.string (bsB t.cm))).setCell ⟨g3, 4, none⟩ (.slice x1 t.S.length y1)).setCell ⟨g3, 5, none⟩ (.slice x2 t.V.length y2)).setCell ⟨g3, 6, none⟩ (.slice x3 t.G.length y3)).setCell ⟨g3, 7, none⟩ (.slice x4 t.P.length y4)).setCell ⟨g3, 8, none⟩ (.int .i64 t.en) = W8 at cl2 ⊢
          clear c0 c1 c2 c3 c4 c5 c6 c7 c8 f0 f1 f2 f3 f4 f5 f6 f7 f8 hHeld
          replace cl := Lib.hid cl2
          clear cl2
          refine hK.out _ _ cl.out.o.x.nine (fun hHeld => ?_)
          clear hK
          try simp only [Act.put, List.getElem_toArray, List.getElem_cons_succ, List.getElem_cons_zero, List.setIfInBounds_toArray, List.set_cons_zero, List.set_cons_succ]
          have c0 := (cl.out.o.z.1).cell (j := 0) rfl
          have c1 := (cl.out.o.z.1).cell (j := 1) rfl
          have c2 := (cl.out.o.z.1).cell (j := 2) rfl
          have c3 := (cl.out.o.z.1).cell (j := 3) rfl
          have c4 := (cl.out.o.z.1).cell (j := 4) rfl
          have c5 := (cl.out.o.z.1).cell (j := 5) rfl
          have c6 := (cl.out.o.z.1).cell (j := 6) rfl
          have c7 := (cl.out.o.z.1).cell (j := 7) rfl
          have c8 := (cl.out.o.z.1).cell (j := 8) rfl
          have f0 := (cl.out.o.z.1).free (j := 0) (by simp)
          have f1 := (cl.out.o.z.1).free (j := 1) (by simp)
          have f2 := (cl.out.o.z.1).free (j := 2) (by simp)
          have f3 := (cl.out.o.z.1).free (j := 3) (by simp)
          have f4 := (cl.out.o.z.1).free (j := 4) (by simp)
          have f5 := (cl.out.o.z.1).free (j := 5) (by simp)
          have f6 := (cl.out.o.z.1).free (j := 6) (by simp)
          have f7 := (cl.out.o.z.1).free (j := 7) (by simp)
          have f8 := (cl.out.o.z.1).free (j := 8) (by simp)
          refine wpAnyH_ready (rs := [7]) (by kernel_rfl) (by simp) ?_
          refine AllReadyH.cons (o := _) rfl (fun K hK => ?_) AllReadyH.nil
          go_simp
          have cl2 := cl.out.box4 rfl (.int .i64 t.sc) (.string (bsB t.dt)) (.string (bsB t.vn)) (.string (bsB t.cm)) (.slice u1 t.S.length v1) (.slice u2 t.V.length v2) (.slice u3 t.G.length v3) (.slice u4 t.P.length v4) (.int .i64 t.en)
          unfold set9 at cl2
          generalize ((((((((W8.setCell ⟨g4, 0, none⟩ (.int .i64 t.sc)).setCell ⟨g4, 1, none⟩ (.string (bsB t.dt))).setCell ⟨g4, 2, none⟩ (.string (bsB t.vn))).setCell ⟨g4, 3, none⟩ (.string (bsB t.cm))).setCell ⟨g4, 4, none⟩ (.slice u1 t.S.length v1)).setCell ⟨g4, 5, none⟩ (.slice u2 t.V.length v2)).setCell ⟨g4, 6, none⟩ (.slice u3 t.G.length v3)).setCell ⟨g4, 7, none⟩ (.slice u4 t.P.length v4)).setCell ⟨g4, 8, none⟩ (.int .i64 t.en) = W9 at cl2 ⊢
          clear c0 c1 c2 c3 c4 c5 c6 c7 c8 f0 f1 f2 f3 f4 f5 f6 f7 f8 hHeld
          replace cl := Lib.hid cl2
          clear cl2
          refine hK.out _ _ cl.out.o.x.nine (fun hHeld => ?_)
          clear hK
          try simp only [Act.put, List.getElem_toArray, List.getElem_cons_succ, List.getElem_cons_zero, List.setIfInBounds_toArray, List.set_cons_zero, List.set_cons_succ]
          refine wpAnyH_done (by kernel_rfl) ?_ _
          clear hHeld
          go_wp2_with fail
          go_meet
          case rel => exact ⟨_, _, _, _, _, _, _, _, _, _, _, _, _, _, _, _, _, _, _, _, _, rfl, rfl, HQ1.out, HQ2.out, cl.out⟩
        · skip
          go_simp
          have st2 := st.out.a4
          generalize V1.alloc (.cells #[.int .i64 0, .string ⟨#[]⟩, .string ⟨#[]⟩, .string ⟨#[]⟩, .slice none 0 0, .slice none 0 0, .slice none 0 0, .slice none 0 0, .int .i64 0] 27) = V2 at st2 ⊢
          generalize V1.heap.size = g4 at st2 ⊢
          replace st := Lib.hid st2
          clear st2 hHeld
          refine hK.out _ _ st.out.x.nine (fun hHeld => ?_)
          clear hK
          try simp only [Act.put, List.getElem_toArray, List.getElem_cons_succ, List.getElem_cons_zero, List.setIfInBounds_toArray, List.set_cons_zero, List.set_cons_succ]
          refine wpAnyH_ready (rs := [3]) (by kernel_rfl) (by simp) ?_
          refine AllReadyH.cons (o := _) rfl (fun K hK => ?_) (AllReadyH.nil)
          go_simp
          refine (HCC.out V2 st.out.b).mono ?_
          rintro e V3 ⟨q2, rfl, hq, hb⟩
          obtain ⟨u1, v1, u2, v2, u3, v3, u4, v4, e1, i1, i2, i3, i4, -⟩ := hq.m0.open
          rw [e1]
          have HQ2 := Lib.hid (And.intro e1 (And.intro i1 (And.intro i2 (And.intro i3 i4))))
          replace st := Lib.hid (st.out.k2 hq hb)
          clear hHeld hq hb e1 i1 i2 i3 i4
          go_wp2_with fail
          refine hK.out _ _ st.out.x.nine (fun hHeld => ?_)
          clear hK
          try simp only [Act.put, List.getElem_toArray, List.getElem_cons_succ, List.getElem_cons_zero, List.setIfInBounds_toArray, List.set_cons_zero, List.set_cons_succ]
          have cl := Lib.hid st.out.cl
          clear st
          have c0 := (cl.out.o.y.1).cell (j := 0) rfl
          have c1 := (cl.out.o.y.1).cell (j := 1) rfl
          have c2 := (cl.out.o.y.1).cell (j := 2) rfl
          have c3 := (cl.out.o.y.1).cell (j := 3) rfl
          have c4 := (cl.out.o.y.1).cell (j := 4) rfl
          have c5 := (cl.out.o.y.1).cell (j := 5) rfl
          have c6 := (cl.out.o.y.1).cell (j := 6) rfl
          have c7 := (cl.out.o.y.1).cell (j := 7) rfl
          have c8 := (cl.out.o.y.1).cell (j := 8) rfl
          have f0 := (cl.out.o.y.1).free (j := 0) (by simp)
          have f1 := (cl.out.o.y.1).free (j := 1) (by simp)
          have f2 := (cl.out.o.y.1).free (j := 2) (by simp)
          have f3 := (cl.out.o.y.1).free (j := 3) (by simp)
          have f4 := (cl.out.o.y.1).free (j := 4) (by simp)
          have f5 := (cl.out.o.y.1).free (j := 5) (by simp)
          have f6 := (cl.out.o.y.1).free (j := 6) (by simp)
          have f7 := (cl.out.o.y.1).free (j := 7) (by simp)
          have f8 := (cl.out.o.y.1).free (j := 8) (by simp)
          refine wpAnyH_ready (rs := [6]) (by kernel_rfl) (by simp) ?_
          refine AllReadyH.cons (o := _) rfl (fun K hK => ?_) AllReadyH.nil
          go_simp
          have cl2 := cl.out.box3 rfl (.int .i64 t.sc) (.string (bsB t.dt)) (.string (bsB t.vn)) (.string (bsB t.cm)) (.slice x1 t.S.length y1) (.slice x2 t.V.length y2) (.slice x3 t.G.length y3) (.slice x4 t.P.length y4) (.int .i64 t.en)
          unfold set9 at cl2
          generalize ((((((((V3.setCell ⟨g3, 0, none⟩ (.int .i64 t.sc)).setCell ⟨g3, 1, none⟩ (.string (bsB t.dt))).setCell ⟨g3, 2, none⟩ (.string (bsB t.vn))).setCell ⟨g3, 3, none⟩ (.string (bsB t.cm))).setCell ⟨g3, 4, none⟩ (.slice x1 t.S.length y1)).setCell ⟨g3, 5, none⟩ (.slice x2 t.V.length y2)).setCell ⟨g3, 6, none⟩ (.slice x3 t.G.length y3)).setCell ⟨g3, 7, none⟩ (.slice x4 t.P.length y4)).setCell ⟨g3, 8, none⟩ (.int .i64 t.en) = W8 at cl2 ⊢
          clear c0 c1 c2 c3 c4 c5 c6 c7 c8 f0 f1 f2 f3 f4 f5 f6 f7 f8 hHeld
          replace cl := Lib.hid cl2
          clear cl2
          refine hK.out _ _ cl.out.o.x.nine (fun hHeld => ?_)
          clear hK
          try simp only [Act.put, List.getElem_toArray, List.getElem_cons_succ, List.getElem_cons_zero, List.setIfInBounds_toArray, List.set_cons_zero, List.set_cons_succ]
          have c0 := (cl.out.o.z.1).cell (j := 0) rfl
          have c1 := (cl.out.o.z.1).cell (j := 1) rfl
          have c2 := (cl.out.o.z.1).cell (j := 2) rfl
          have c3 := (cl.out.o.z.1).cell (j := 3) rfl
          have c4 := (cl.out.o.z.1).cell (j := 4) rfl
          have c5 := (cl.out.o.z.1).cell (j := 5) rfl
          have c6 := (cl.out.o.z.1).cell (j := 6) rfl
          have c7 := (cl.out.o.z.1).cell (j := 7) rfl
          have c8 := (cl.out.o.z.1).cell (j := 8) rfl
          have f0 := (cl.out.o.z.1).free (j := 0) (by simp)
          have f1 := (cl.out.o.z.1).free (j := 1) (by simp)
          have f2 := (cl.out.o.z.1).free (j := 2) (by simp)
          have f3 := (cl.out.o.z.1).free (j := 3) (by simp)
          have f4 := (cl.out.o.z.1).free (j := 4) (by simp)
          have f5 := (cl.out.o.z.1).free (j := 5) (by simp)
          have f6 := (cl.out.o.z.1).free (j := 6) (by simp)
          have f7 := (cl.out.o.z.1).free (j := 7) (by simp)
          have f8 := (cl.out.o.z.1).free (j := 8) (by simp)
          refine wpAnyH_ready (rs := [7]) (by kernel_rfl) (by simp) ?_
          refine AllReadyH.cons (o := _) rfl (fun K hK => ?_) AllReadyH.nil
          go_simp
          have cl2 := cl.out.box4 rfl (.int .i64 t.sc) (.string (bsB t.dt)) (.string (bsB t.vn)) (.string (bsB t.cm)) (.slice u1 t.S.length v1) (.slice u2 t.V.length v2) (.slice u3 t.G.length v3) (.slice u4 t.P.length v4) (.int .i64 t.en)
          unfold set9 at cl2
          generalize ((((((((W8.setCell ⟨g4, 0, none⟩ (.int .i64 t.sc)).setCell ⟨g4, 1, none⟩ (.string (bsB t.dt))).setCell ⟨g4, 2, none⟩ (.string (bsB t.vn))).setCell ⟨g4, 3, none⟩ (.string (bsB t.cm))).setCell ⟨g4, 4, none⟩ (.slice u1 t.S.length v1)).setCell ⟨g4, 5, none⟩ (.slice u2 t.V.length v2)).setCell ⟨g4, 6, none⟩ (.slice u3 t.G.length v3)).setCell ⟨g4, 7, none⟩ (.slice u4 t.P.length v4)).setCell ⟨g4, 8, none⟩ (.int .i64 t.en) = W9 at cl2 ⊢
          clear c0 c1 c2 c3 c4 c5 c6 c7 c8 f0 f1 f2 f3 f4 f5 f6 f7 f8 hHeld
          replace cl := Lib.hid cl2
          clear cl2
          refine hK.out _ _ cl.out.o.x.nine (fun hHeld => ?_)
          clear hK
          try simp only [Act.put, List.getElem_toArray, List.getElem_cons_succ, List.getElem_cons_zero, List.setIfInBounds_toArray, List.set_cons_zero, List.set_cons_succ]
          refine wpAnyH_done (by kernel_rfl) ?_ _
          clear hHeld
          go_wp2_with fail
          go_meet
          case rel => exact ⟨_, _, _, _, _, _, _, _, _, _, _, _, _, _, _, _, _, _, _, _, _, rfl, rfl, HQ1.out, HQ2.out, cl.out⟩
      · skip
        go_simp
        have st2 := st.out.a4
        generalize V0.alloc (.cells #[.int .i64 0, .string ⟨#[]⟩, .string ⟨#[]⟩, .string ⟨#[]⟩, .slice none 0 0, .slice none 0 0, .slice none 0 0, .slice none 0 0, .int .i64 0] 27) = V1 at st2 ⊢
        generalize V0.heap.size = g4 at st2 ⊢
        replace st := Lib.hid st2
        clear st2 hHeld
        refine hK.out _ _ st.out.x.nine (fun hHeld => ?_)
        clear hK
        try simp only [Act.put, List.getElem_toArray, List.getElem_cons_succ, List.getElem_cons_zero, List.setIfInBounds_toArray, List.set_cons_zero, List.set_cons_succ]
        refine wpAnyH_ready (rs := [3, 4]) (by kernel_rfl) (by simp) ?_
        refine AllReadyH.cons (o := _) rfl (fun K hK => ?_) (AllReadyH.cons (o := _) rfl (fun K hK => ?_) (AllReadyH.nil))
        · skip
          go_simp
          refine (HCC.out V1 st.out.b).mono ?_
          rintro e V2 ⟨q2, rfl, hq, hb⟩
          obtain ⟨u1, v1, u2, v2, u3, v3, u4, v4, e1, i1, i2, i3, i4, -⟩ := hq.m0.open
          rw [e1]
          have HQ2 := Lib.hid (And.intro e1 (And.intro i1 (And.intro i2 (And.intro i3 i4))))
          replace st := Lib.hid (st.out.k2 hq hb)
          clear hHeld hq hb e1 i1 i2 i3 i4
          go_wp2_with fail
          refine hK.out _ _ st.out.x.nine (fun hHeld => ?_)
          clear hK
          try simp only [Act.put, List.getElem_toArray, List.getElem_cons_succ, List.getElem_cons_zero, List.setIfInBounds_toArray, List.set_cons_zero, List.set_cons_succ]
          refine wpAnyH_ready (rs := [4]) (by kernel_rfl) (by simp) ?_
          refine AllReadyH.cons (o := _) rfl (fun K hK => ?_) (AllReadyH.nil)
          go_simp
          have st2 := st.out.a3
          generalize V2.alloc (.cells #[.int .i64 0, .string ⟨#[]⟩, .string ⟨#[]⟩, .string ⟨#[]⟩, .slice none 0 0, .slice none 0 0, .slice none 0 0, .slice none 0 0, .int .i64 0] 27) = V3 at st2 ⊢
          generalize V2.heap.size = g3 at st2 ⊢
          replace st := Lib.hid st2
          clear st2 hHeld
          refine hK.out _ _ st.out.x.nine (fun hHeld => ?_)
          clear hK
          try simp only [Act.put, List.getElem_toArray, List.getElem_cons_succ, List.getElem_cons_zero, List.setIfInBounds_toArray, List.set_cons_zero, List.set_cons_succ]
          have cl := Lib.hid st.out.cl
          clear st
          have c0 := (cl.out.o.y.1).cell (j := 0) rfl
          have c1 := (cl.out.o.y.1).cell (j := 1) rfl
          have c2 := (cl.out.o.y.1).cell (j := 2) rfl
          have c3 := (cl.out.o.y.1).cell (j := 3) rfl
          have c4 := (cl.out.o.y.1).cell (j := 4) rfl
          have c5 := (cl.out.o.y.1).cell (j := 5) rfl
          have c6 := (cl.out.o.y.1).cell (j := 6) rfl
          have c7 := (cl.out.o.y.1).cell (j := 7) rfl
          have c8 := (cl.out.o.y.1).cell (j := 8) rfl
          have f0 := (cl.out.o.y.1).free (j := 0) (by simp)
          have f1 := (cl.out.o.y.1).free (j := 1) (by simp)
          have f2 := (cl.out.o.y.1).free (j := 2) (by simp)
          have f3 := (cl.out.o.y.1).free (j := 3) (by simp)
          have f4 := (cl.out.o.y.1).free (j := 4) (by simp)
          have f5 := (cl.out.o.y.1).free (j := 5) (by simp)
          have f6 := (cl.out.o.y.1).free (j := 6) (by simp)
          have f7 := (cl.out.o.y.1).free (j := 7) (by simp)
          have f8 := (cl.out.o.y.1).free (j := 8) (by simp)
          refine wpAnyH_ready (rs := [6]) (by kernel_rfl) (by simp) ?_
          refine AllReadyH.cons (o := _) rfl (fun K hK => ?_) AllReadyH.nil
          go_simp
          have cl2 := cl.out.box3 rfl (.int .i64 t.sc) (.string (bsB t.dt)) (.string (bsB t.vn)) (.string (bsB t.cm)) (.slice x1 t.S.length y1) (.slice x2 t.V.length y2) (.slice x3 t.G.length y3) (.slice x4 t.P.length y4) (.int .i64 t.en)
          unfold set9 at cl2
          generalize ((((((((V3.setCell ⟨g3, 0, none⟩ (.int .i64 t.sc)).setCell ⟨g3, 1, none⟩ (.string (bsB t.dt))).setCell ⟨g3, 2, none⟩ (.string (bsB t.vn))).setCell ⟨g3, 3, none⟩ (.string (bsB t.cm))).setCell ⟨g3, 4, none⟩ (.slice x1 t.S.length y1)).setCell ⟨g3, 5, none⟩ (.slice x2 t.V.length y2)).setCell ⟨g3, 6, none⟩ (.slice x3 t.G.length y3)).setCell ⟨g3, 7, none⟩ (.slice x4 t.P.length y4)).setCell ⟨g3, 8, none⟩ (.int .i64 t.en) = W8 at cl2 ⊢
          clear c0 c1 c2 c3 c4 c5 c6 c7 c8 f0 f1 f2 f3 f4 f5 f6 f7 f8 hHeld
          replace cl := Lib.hid cl2
          clear cl2
          refine hK.out _ _ cl.out.o.x.nine (fun hHeld => ?_)
          clear hK
          try simp only [Act.put, List.getElem_toArray, List.getElem_cons_succ, List.getElem_cons_zero, List.setIfInBounds_toArray, List.set_cons_zero, List.set_cons_succ]
          have c0 := (cl.out.o.z.1).cell (j := 0) rfl
          have c1 := (cl.out.o.z.1).cell (j := 1) rfl
          have c2 := (cl.out.o.z.1).cell (j := 2) rfl
          have c3 := (cl.out.o.z.1).cell (j := 3) rfl
          have c4 := (cl.out.o.z.1).cell (j := 4) rfl
          have c5 := (cl.out.o.z.1).cell (j := 5) rfl
          have c6 := (cl.out.o.z.1).cell (j := 6) rfl
          have c7 := (cl.out.o.z.1).cell (j := 7) rfl
          have c8 := (cl.out.o.z.1).cell (j := 8) rfl
          have f0 := (cl.out.o.z.1).free (j := 0) (by simp)
          have f1 := (cl.out.o.z.1).free (j := 1) (by simp)
          have f2 := (cl.out.o.z.1).free (j := 2) (by simp)
          have f3 := (cl.out.o.z.1).free (j := 3) (by simp)
          have f4 := (cl.out.o.z.1).free (j := 4) (by simp)
          have f5 := (cl.out.o.z.1).free (j := 5) (by simp)
          have f6 := (cl.out.o.z.1).free (j := 6) (by simp)
          have f7 := (cl.out.o.z.1).free (j := 7) (by simp)
          have f8 := (cl.out.o.z.1).free (j := 8) (by simp)
          refine wpAnyH_ready (rs := [7]) (by kernel_rfl) (by simp) ?_
          refine AllReadyH.cons (o := _) rfl (fun K hK => ?_) AllReadyH.nil
          go_simp
          have cl2 := cl.out.box4 rfl (.int .i64 t.sc) (.string (bsB t.dt)) (.string (bsB t.vn)) (.string (bsB t.cm)) (.slice u1 t.S.length v1) (.slice u2 t.V.length v2) (.slice u3 t.G.length v3) (.slice u4 t.P.length v4) (.int .i64 t.en)
          unfold set9 at cl2
          generalize ((((((((W8.setCell ⟨g4, 0, none⟩ (.int .i64 t.sc)).setCell ⟨g4, 1, none⟩ (.string (bsB t.dt))).setCell ⟨g4, 2, none⟩ (.string (bsB t.vn))).setCell ⟨g4, 3, none⟩ (.string (bsB t.cm))).setCell ⟨g4, 4, none⟩ (.slice u1 t.S.length v1)).setCell ⟨g4, 5, none⟩ (.slice u2 t.V.length v2)).setCell ⟨g4, 6, none⟩ (.slice u3 t.G.length v3)).setCell ⟨g4, 7, none⟩ (.slice u4 t.P.length v4)).setCell ⟨g4, 8, none⟩ (.int .i64 t.en) = W9 at cl2 ⊢
          clear c0 c1 c2 c3 c4 c5 c6 c7 c8 f0 f1 f2 f3 f4 f5 f6 f7 f8 hHeld
          replace cl := Lib.hid cl2
          clear cl2
          refine hK.out _ _ cl.out.o.x.nine (fun hHeld => ?_)
          clear hK
          try simp only [Act.put, List.getElem_toArray, List.getElem_cons_succ, List.getElem_cons_zero, List.setIfInBounds_toArray, List.set_cons_zero, List.set_cons_succ]
          refine wpAnyH_done (by kernel_rfl) ?_ _
          clear hHeld
          go_wp2_with fail
          go_meet
          case rel => exact ⟨_, _, _, _, _, _, _, _, _, _, _, _, _, _, _, _, _, _, _, _, _, rfl, rfl, HQ1.out, HQ2.out, cl.out⟩
        · skip
          go_simp
          have st2 := st.out.a3
          generalize V1.alloc (.cells #[.int .i64 0, .string ⟨#[]⟩, .string ⟨#[]⟩, .string ⟨#[]⟩, .slice none 0 0, .slice none 0 0, .slice none 0 0, .slice none 0 0, .int .i64 0] 27) = V2 at st2 ⊢
          generalize V1.heap.size = g3 at st2 ⊢
          replace st := Lib.hid st2
          clear st2 hHeld
          refine hK.out _ _ st.out.x.nine (fun hHeld => ?_)
          clear hK
          try simp only [Act.put, List.getElem_toArray, List.getElem_cons_succ, List.getElem_cons_zero, List.setIfInBounds_toArray, List.set_cons_zero, List.set_cons_succ]
          refine wpAnyH_ready (rs := [3]) (by kernel_rfl) (by simp) ?_
          refine AllReadyH.cons (o := _) rfl (fun K hK => ?_) (AllReadyH.nil)
          go_simp
          refine (HCC.out V2 st.out.b).mono ?_
          rintro e V3 ⟨q2, rfl, hq, hb⟩
          obtain ⟨u1, v1, u2, v2, u3, v3, u4, v4, e1, i1, i2, i3, i4, -⟩ := hq.m0.open
          rw [e1]
          have HQ2 := Lib.hid (And.intro e1 (And.intro i1 (And.intro i2 (And.intro i3 i4))))
          replace st := Lib.hid (st.out.k2 hq hb)
          clear hHeld hq hb e1 i1 i2 i3 i4
          go_wp2_with fail
          refine hK.out _ _ st.out.x.nine (fun hHeld => ?_)
          clear hK
          try simp only [Act.put, List.getElem_toArray, List.getElem_cons_succ, List.getElem_cons_zero, List.setIfInBounds_toArray, List.set_cons_zero, List.set_cons_succ]
          have cl := Lib.hid st.out.cl
          clear st
          have c0 := (cl.out.o.y.1).cell (j := 0) rfl
          have c1 := (cl.out.o.y.1).cell (j := 1) rfl
          have c2 := (cl.out.o.y.1).cell (j := 2) rfl
          have c3 := (cl.out.o.y.1).cell (j := 3) rfl
          have c4 := (cl.out.o.y.1).cell (j := 4) rfl
          have c5 := (cl.out.o.y.1).cell (j := 5) rfl
          have c6 := (cl.out.o.y.1).cell (j := 6) rfl
          have c7 := (cl.out.o.y.1).cell (j := 7) rfl
          have c8 := (cl.out.o.y.1).cell (j := 8) rfl
          have f0 := (cl.out.o.y.1).free (j := 0) (by simp)
          have f1 := (cl.out.o.y.1).free (j := 1) (by simp)
          have f2 := (cl.out.o.y.1).free (j := 2) (by simp)
          have f3 := (cl.out.o.y.1).free (j := 3) (by simp)
          have f4 := (cl.out.o.y.1).free (j := 4) (by simp)
          have f5 := (cl.out.o.y.1).free (j := 5) (by simp)
          have f6 := (cl.out.o.y.1).free (j := 6) (by simp)
          have f7 := (cl.out.o.y.1).free (j := 7) (by simp)
          have f8 := (cl.out.o.y.1).free (j := 8) (by simp)
          refine wpAnyH_ready (rs := [6]) (by kernel_rfl) (by simp) ?_
          refine AllReadyH.cons (o := _) rfl (fun K hK => ?_) AllReadyH.nil
          go_simp
          have cl2 := cl.out.box3 rfl (.int .i64 t.sc) (.string (bsB t.dt)) (.string (bsB t.vn)) (.string (bsB t.cm)) (.slice x1 t.S.length y1) (.slice x2 t.V.length y2) (.slice x3 t.G.length y3) (.slice x4 t.P.length y4) (.int .i64 t.en)
          unfold set9 at cl2
          generalize ((((((((V3.setCell ⟨g3, 0, none⟩ (.int .i64 t.sc)).setCell ⟨g3, 1, none⟩ (.string (bsB t.dt))).setCell ⟨g3, 2, none⟩ (.string (bsB t.vn))).setCell ⟨g3, 3, none⟩ (.string (bsB t.cm))).setCell ⟨g3, 4, none⟩ (.slice x1 t.S.length y1)).setCell ⟨g3, 5, none⟩ (.slice x2 t.V.length y2)).setCell ⟨g3, 6, none⟩ (.slice x3 t.G.length y3)).setCell ⟨g3, 7, none⟩ (.slice x4 t.P.length y4)).setCell ⟨g3, 8, none⟩ (.int .i64 t.en) = W8 at cl2 ⊢
          clear c0 c1 c2 c3 c4 c5 c6 c7 c8 f0 f1 f2 f3 f4 f5 f6 f7 f8 hHeld
          replace cl := Lib.hid cl2
          clear cl2
          refine hK.out _ _ cl.out.o.x.nine (fun hHeld => ?_)
          clear hK
          try simp only [Act.put, List.getElem_toArray, List.getElem_cons_succ, List.getElem_cons_zero, List.setIfInBounds_toArray, List.set_cons_zero, List.set_cons_succ]
          have c0 := (cl.out.o.z.1).cell (j := 0) rfl
          have c1 := (cl.out.o.z.1).cell (j := 1) rfl
          have c2 := (cl.out.o.z.1).cell (j := 2) rfl
          have c3 := (cl.out.o.z.1).cell (j := 3) rfl
          have c4 := (cl.out.o.z.1).cell (j := 4) rfl
          have c5 := (cl.out.o.z.1).cell (j := 5) rfl
          have c6 := (cl.out.o.z.1).cell (j := 6) rfl
          have c7 := (cl.out.o.z.1).cell (j := 7) rfl
          have c8 := (cl.out.o.z.1).cell (j := 8) rfl
          have f0 := (cl.out.o.z.1).free (j := 0) (by simp)
          have f1 := (cl.out.o.z.1).free (j := 1) (by simp)
          have f2 := (cl.out.o.z.1).free (j := 2) (by simp)
          have f3 := (cl.out.o.z.1).free (j := 3) (by simp)
          have f4 := (cl.out.o.z.1).free (j := 4) (by simp)
          have f5 := (cl.out.o.z.1).free (j := 5) (by simp)
          have f6 := (cl.out.o.z.1).free (j := 6) (by simp)
          have f7 := (cl.out.o.z.1).free (j := 7) (by simp)
          have f8 := (cl.out.o.z.1).free (j := 8) (by simp)
          refine wpAnyH_ready (rs := [7]) (by kernel_rfl) (by simp) ?_
          refine AllReadyH.cons (o := _) rfl (fun K hK => ?_) AllReadyH.nil
          go_simp
          have cl2 := cl.out.box4 rfl (.int .i64 t.sc) (.string (bsB t.dt)) (.string (bsB t.vn)) (.string (bsB t.cm)) (.slice u1 t.S.length v1) (.slice u2 t.V.length v2) (.slice u3 t.G.length v3) (.slice u4 t.P.length v4) (.int .i64 t.en)
          unfold set9 at cl2
          generalize ((((((((W8.setCell ⟨g4, 0, none⟩ (.int .i64 t.sc)).setCell ⟨g4, 1, none⟩ (.string (bsB t.dt))).setCell ⟨g4, 2, none⟩ (.string (bsB t.vn))).setCell ⟨g4, 3, none⟩ (.string (bsB t.cm))).setCell ⟨g4, 4, none⟩ (.slice u1 t.S.length v1)).setCell ⟨g4, 5, none⟩ (.slice u2 t.V.length v2)).setCell ⟨g4, 6, none⟩ (.slice u3 t.G.length v3)).setCell ⟨g4, 7, none⟩ (.slice u4 t.P.length v4)).setCell ⟨g4, 8, none⟩ (.int .i64 t.en) = W9 at cl2 ⊢
          clear c0 c1 c2 c3 c4 c5 c6 c7 c8 f0 f1 f2 f3 f4 f5 f6 f7 f8 hHeld
          replace cl := Lib.hid cl2
          clear cl2
          refine hK.out _ _ cl.out.o.x.nine (fun hHeld => ?_)
          clear hK
          try simp only [Act.put, List.getElem_toArray, List.getElem_cons_succ, List.getElem_cons_zero, List.setIfInBounds_toArray, List.set_cons_zero, List.set_cons_succ]
          refine wpAnyH_done (by kernel_rfl) ?_ _
          clear hHeld
          go_wp2_with fail
          go_meet
          case rel => exact ⟨_, _, _, _, _, _, _, _, _, _, _, _, _, _, _, _, _, _, _, _, _, rfl, rfl, HQ1.out, HQ2.out, cl.out⟩
    · skip
      go_simp
      have st2 := st.out.a3
      generalize W0.alloc (.cells #[.int .i64 0, .string ⟨#[]⟩, .string ⟨#[]⟩, .string ⟨#[]⟩, .slice none 0 0, .slice none 0 0, .slice none 0 0, .slice none 0 0, .int .i64 0] 27) = V0 at st2 ⊢
      generalize W0.heap.size = g3 at st2 ⊢
      replace st := Lib.hid st2
      clear st2 hHeld
      refine hK.out _ _ st.out.x.nine (fun hHeld => ?_)
      clear hK
      try simp only [Act.put, List.getElem_toArray, List.getElem_cons_succ, List.getElem_cons_zero, List.setIfInBounds_toArray, List.set_cons_zero, List.set_cons_succ]
      refine wpAnyH_ready (rs := [1, 5]) (by kernel_rfl) (by simp) ?_
      refine AllReadyH.cons (o := _) rfl (fun K hK => ?_) (AllReadyH.cons (o := _) rfl (fun K hK => ?_) (AllReadyH.nil))
      · skip
        go_simp
        refine (HCC.out V0 st.out.b).mono ?_
        rintro e V1 ⟨q1, rfl, hq, hb⟩
        obtain ⟨x1, y1, x2, y2, x3, y3, x4, y4, e1, i1, i2, i3, i4, -⟩ := hq.m0.open
        rw [e1]
        have HQ1 := Lib.hid (And.intro e1 (And.intro i1 (And.intro i2 (And.intro i3 i4))))
        replace st := Lib.hid (st.out.k1 hq hb)
        clear hHeld hq hb e1 i1 i2 i3 i4
        go_wp2_with fail
        refine hK.out _ _ st.out.x.nine (fun hHeld => ?_)
        clear hK
        try simp only [Act.put, List.getElem_toArray, List.getElem_cons_succ, List.getElem_cons_zero, List.setIfInBounds_toArray, List.set_cons_zero, List.set_cons_succ]
        refine wpAnyH_ready (rs := [3, 5]) (by kernel_rfl) (by simp) ?_
        refine AllReadyH.cons (o := _) rfl (fun K hK => ?_) (AllReadyH.cons (o := _) rfl (fun K hK => ?_) (AllReadyH.nil))
        · skip
          go_simp
          refine (HCC.out V1 st.out.b).mono ?_
          rintro e V2 ⟨q2, rfl, hq, hb⟩
          obtain ⟨u1, v1, u2, v2, u3, v3, u4, v4, e1, i1, i2, i3, i4, -⟩ := hq.m0.open
          rw [e1]
          have HQ2 := Lib.hid (And.intro e1 (And.intro i1 (And.intro i2 (And.intro i3 i4))))
          replace st := Lib.hid (st.out.k2 hq hb)
          clear hHeld hq hb e1 i1 i2 i3 i4
          go_wp2_with fail
          refine hK.out _ _ st.out.x.nine (fun hHeld => ?_)
          clear hK
          try simp only [Act.put, List.getElem_toArray, List.getElem_cons_succ, List.getElem_cons_zero, List.setIfInBounds_toArray, List.set_cons_zero, List.set_cons_succ]
          refine wpAnyH_ready (rs := [5]) (by kernel_rfl) (by simp) ?_
          refine AllReadyH.cons (o := _) rfl (fun K hK => ?_) (AllReadyH.nil)
          go_simp
          have st2 := st.out.a4
          generalize V2.alloc (.cells #[.int .i64 0, .string ⟨#[]⟩, .string ⟨#[]⟩, .string ⟨#[]⟩, .slice none 0 0, .slice none 0 0, .slice none 0 0, .slice none 0 0, .int .i64 0] 27) = V3 at st2 ⊢
          generalize V2.heap.size = g4 at st2 ⊢
          replace st := Lib.hid st2
          clear st2 hHeld
          refine hK.out _ _ st.out.x.nine (fun hHeld => ?_)
          clear hK
          try simp only [Act.put, List.getElem_toArray, List.getElem_cons_succ, List.getElem_cons_zero, List.setIfInBounds_toArray, List.set_cons_zero, List.set_cons_succ]
          have cl := Lib.hid st.out.cl
          clear st
          have c0 := (cl.out.o.y.1).cell (j := 0) rfl
          have c1 := (cl.out.o.y.1).cell (j := 1) rfl
          have c2 := (cl.out.o.y.1).cell (j := 2) rfl
          have c3 := (cl.out.o.y.1).cell (j := 3) rfl
          have c4 := (cl.out.o.y.1).cell (j := 4) rfl
          have c5 := (cl.out.o.y.1).cell (j := 5) rfl
          have c6 := (cl.out.o.y.1).cell (j := 6) rfl
          have c7 := (cl.out.o.y.1).cell (j := 7) rfl
          have c8 := (cl.out.o.y.1).cell (j := 8) rfl
          have f0 := (cl.out.o.y.1).free (j := 0) (by simp)
          have f1 := (cl.out.o.y.1).free (j := 1) (by simp)
          have f2 := (cl.out.o.y.1).free (j := 2) (by simp)
          have f3 := (cl.out.o.y.1).free (j := 3) (by simp)
          have f4 := (cl.out.o.y.1).free (j := 4) (by simp)
          have f5 := (cl.out.o.y.1).free (j := 5) (by simp)
          have f6 := (cl.out.o.y.1).free (j := 6) (by simp)
          have f7 := (cl.out.o.y.1).free (j := 7) (by simp)
          have f8 := (cl.out.o.y.1).free (j := 8) (by simp)
          refine wpAnyH_ready (rs := [6]) (by kernel_rfl) (by simp) ?_
          refine AllReadyH.cons (o := _) rfl (fun K hK => ?_) AllReadyH.nil
          go_simp
          have cl2 := cl.out.box3 rfl (.int .i64 t.sc) (.string (bsB t.dt)) (.string (bsB t.vn)) (.string (bsB t.cm)) (.slice x1 t.S.length y1) (.slice x2 t.V.length y2) (.slice x3 t.G.length y3) (.slice x4 t.P.length y4) (.int .i64 t.en)
          unfold set9 at cl2
          generalize ((((((((V3.setCell ⟨g3, 0, none⟩ (.int .i64 t.sc)).setCell ⟨g3, 1, none⟩ (.string (bsB t.dt))).setCell ⟨g3, 2, none⟩ (.string (bsB t.vn))).setCell ⟨g3, 3, none⟩ (.string (bsB t.cm))).setCell ⟨g3, 4, none⟩ (.slice x1 t.S.length y1)).setCell ⟨g3, 5, none⟩ (.slice x2 t.V.length y2)).setCell ⟨g3, 6, none⟩ (.slice x3 t.G.length y3)).setCell ⟨g3, 7, none⟩ (.slice x4 t.P.length y4)).setCell ⟨g3, 8, none⟩ (.int .i64 t.en) = W8 at cl2 ⊢
          clear c0 c1 c2 c3 c4 c5 c6 c7 c8 f0 f1 f2 f3 f4 f5 f6 f7 f8 hHeld
          replace cl := Lib.hid cl2
          clear cl2
          refine hK.out _ _ cl.out.o.x.nine (fun hHeld => ?_)
          clear hK
          try simp only [Act.put, List.getElem_toArray, List.getElem_cons_succ, List.getElem_cons_zero, List.setIfInBounds_toArray, List.set_cons_zero, List.set_cons_succ]
          have c0 := (cl.out.o.z.1).cell (j := 0) rfl
          have c1 := (cl.out.o.z.1).cell (j := 1) rfl
          have c2 := (cl.out.o.z.1).cell (j := 2) rfl
          have c3 := (cl.out.o.z.1).cell (j := 3) rfl
          have c4 := (cl.out.o.z.1).cell (j := 4) rfl
          have c5 := (cl.out.o.z.1).cell (j := 5) rfl
          have c6 := (cl.out.o.z.1).cell (j := 6) rfl
          have c7 := (cl.out.o.z.1).cell (j := 7) rfl
          have c8 := (cl.out.o.z.1).cell (j := 8) rfl
          have f0 := (cl.out.o.z.1).free (j := 0) (by simp)
          have f1 := (cl.out.o.z.1).free (j := 1) (by simp)
          have f2 := (cl.out.o.z.1).free (j := 2) (by simp)
          have f3 := (cl.out.o.z.1).free (j := 3) (by simp)
          have f4 := (cl.out.o.z.1).free (j := 4) (by simp)
          have f5 := (cl.out.o.z.1).free (j := 5) (by simp)
          have f6 := (cl.out.o.z.1).free (j := 6) (by simp)
          have f7 := (cl.out.o.z.1).free (j := 7) (by simp)
          have f8 := (cl.out.o.z.1).free (j := 8) (by simp)
          refine wpAnyH_ready (rs := [7]) (by kernel_rfl) (by simp) ?_
          refine AllReadyH.cons (o := _) rfl (fun K hK => ?_) AllReadyH.nil
          go_simp
          have cl2 := cl.out.box4 rfl (.int .i64 t.sc) (.string (bsB t.dt)) (.string (bsB t.vn)) (.string (bsB t.cm)) (.slice u1 t.S.length v1) (.slice u2 t.V.length v2) (.slice u3 t.G.length v3) (.slice u4 t.P.length v4) (.int .i64 t.en)
          unfold set9 at cl2
          generalize ((((((((W8.setCell ⟨g4, 0, none⟩ (.int .i64 t.sc)).setCell ⟨g4, 1, none⟩ (.string (bsB t.dt))).setCell ⟨g4, 2, none⟩ (.string (bsB t.vn))).setCell ⟨g4, 3, none⟩ (.string (bsB t.cm))).setCell ⟨g4, 4, none⟩ (.slice u1 t.S.length v1)).setCell ⟨g4, 5, none⟩ (.slice u2 t.V.length v2)).setCell ⟨g4, 6, none⟩ (.slice u3 t.G.length v3)).setCell ⟨g4, 7, none⟩ (.slice u4 t.P.length v4)).setCell ⟨g4, 8, none⟩ (.int .i64 t.en) = W9 at cl2 ⊢
          clear c0 c1 c2 c3 c4 c5 c6 c7 c8 f0 f1 f2 f3 f4 f5 f6 f7 f8 hHeld
          replace cl := Lib.hid cl2
          clear cl2
          refine hK.out _ _ cl.out.o.x.nine (fun hHeld => ?_)
          clear hK
          try simp only [Act.put, List.getElem_toArray, List.getElem_cons_succ, List.getElem_cons_zero, List.setIfInBounds_toArray, List.set_cons_zero, List.set_cons_succ]
          refine wpAnyH_done (by kernel_rfl) ?_ _
          clear hHeld
          go_wp2_with fail
          go_meet
          case rel => exact ⟨_, _, _, _, _, _, _, _, _, _, _, _, _, _, _, _, _, _, _, _, _, rfl, rfl, HQ1.out, HQ2.out, cl.out⟩
        · skip
          go_simp
          have st2 := st.out.a4
          generalize V1.alloc (.cells #[.int .i64 0, .string ⟨#[]⟩, .string ⟨#[]⟩, .string ⟨#[]⟩, .slice none 0 0, .slice none 0 0, .slice none 0 0, .slice none 0 0, .int .i64 0] 27) = V2 at st2 ⊢
          generalize V1.heap.size = g4 at st2 ⊢
          replace st := Lib.hid st2
          clear st2 hHeld
          refine hK.out _ _ st.out.x.nine (fun hHeld => ?_)
          clear hK
          try simp only [Act.put, List.getElem_toArray, List.getElem_cons_succ, List.getElem_cons_zero, List.setIfInBounds_toArray, List.set_cons_zero, List.set_cons_succ]
          refine wpAnyH_ready (rs := [3]) (by kernel_rfl) (by simp) ?_
          refine AllReadyH.cons (o := _) rfl (fun K hK => ?_) (AllReadyH.nil)
          go_simp
          refine (HCC.out V2 st.out.b).mono ?_
          rintro e V3 ⟨q2, rfl, hq, hb⟩
          obtain ⟨u1, v1, u2, v2, u3, v3, u4, v4, e1, i1, i2, i3, i4, -⟩ := hq.m0.open
          rw [e1]
          have HQ2 := Lib.hid (And.intro e1 (And.intro i1 (And.intro i2 (And.intro i3 i4))))
          replace st := Lib.hid (st.out.k2 hq hb)
          clear hHeld hq hb e1 i1 i2 i3 i4
          go_wp2_with fail
          refine hK.out _ _ st.out.x.nine (fun hHeld => ?_)
          clear hK
          try simp only [Act.put, List.getElem_toArray, List.getElem_cons_succ, List.getElem_cons_zero, List.setIfInBounds_toArray, List.set_cons_zero, List.set_cons_succ]
          have cl := Lib.hid st.out.cl
          clear st
          have c0 := (cl.out.o.y.1).cell (j := 0) rfl
          have c1 := (cl.out.o.y.1).cell (j := 1) rfl
          have c2 := (cl.out.o.y.1).cell (j := 2) rfl
          have c3 := (cl.out.o.y.1).cell (j := 3) rfl
          have c4 := (cl.out.o.y.1).cell (j := 4) rfl
          have c5 := (cl.out.o.y.1).cell (j := 5) rfl
          have c6 := (cl.out.o.y.1).cell (j := 6) rfl
          have c7 := (cl.out.o.y.1).cell (j := 7) rfl
          have c8 := (cl.out.o.y.1).cell (j := 8) rfl
          have f0 := (cl.out.o.y.1).free (j := 0) (by simp)
          have f1 := (cl.out.o.y.1).free (j := 1) (by simp)
          have f2 := (cl.out.o.y.1).free (j := 2) (by simp)
          have f3 := (cl.out.o.y.1).free (j := 3) (by simp)
          have f4 := (cl.out.o.y.1).free (j := 4) (by simp)
          have f5 := (cl.out.o.y.1).free (j := 5) (by simp)
          have f6 := (cl.out.o.y.1).free (j := 6) (by simp)
          have f7 := (cl.out.o.y.1).free (j := 7) (by simp)
          have f8 := (cl.out.o.y.1).free (j := 8) (by simp)
          refine wpAnyH_ready (rs := [6]) (by kernel_rfl) (by simp) ?_
          refine AllReadyH.cons (o := _) rfl (fun K hK => ?_) AllReadyH.nil
          go_simp
          have cl2 := cl.out.box3 rfl (.int .i64 t.sc) (.string (bsB t.dt)) (.string (bsB t.vn)) (.string (bsB t.cm)) (.slice x1 t.S.length y1) (.slice x2 t.V.length y2) (.slice x3 t.G.length y3) (.slice x4 t.P.length y4) (.int .i64 t.en)
          unfold set9 at cl2
          generalize ((((((((V3.setCell ⟨g3, 0, none⟩ (.int .i64 t.sc)).setCell ⟨g3, 1, none⟩ (.string (bsB t.dt))).setCell ⟨g3, 2, none⟩ (.string (bsB t.vn))).setCell ⟨g3, 3, none⟩ (.string (bsB t.cm))).setCell ⟨g3, 4, none⟩ (.slice x1 t.S.length y1)).setCell ⟨g3, 5, none⟩ (.slice x2 t.V.length y2)).setCell ⟨g3, 6, none⟩ (.slice x3 t.G.length y3)).setCell ⟨g3, 7, none⟩ (.slice x4 t.P.length y4)).setCell ⟨g3, 8, none⟩ (.int .i64 t.en) = W8 at cl2 ⊢
          clear c0 c1 c2 c3 c4 c5 c6 c7 c8 f0 f1 f2 f3 f4 f5 f6 f7 f8 hHeld
          replace cl := Lib.hid cl2
          clear cl2
          refine hK.out _ _ cl.out.o.x.nine (fun hHeld => ?_)
          clear hK
          try simp only [Act.put, List.getElem_toArray, List.getElem_cons_succ, List.getElem_cons_zero, List.setIfInBounds_toArray, List.set_cons_zero, List.set_cons_succ]
          have c0 := (cl.out.o.z.1).cell (j := 0) rfl
          have c1 := (cl.out.o.z.1).cell (j := 1) rfl
          have c2 := (cl.out.o.z.1).cell (j := 2) rfl
          have c3 := (cl.out.o.z.1).cell (j := 3) rfl
          have c4 := (cl.out.o.z.1).cell (j := 4) rfl
          have c5 := (cl.out.o.z.1).cell (j := 5) rfl
          have c6 := (cl.out.o.z.1).cell (j := 6) rfl
          have c7 := (cl.out.o.z.1).cell (j := 7) rfl
          have c8 := (cl.out.o.z.1).cell (j := 8) rfl
          have f0 := (cl.out.o.z.1).free (j := 0) (by simp)
          have f1 := (cl.out.o.z.1).free (j := 1) (by simp)
          have f2 := (cl.out.o.z.1).free (j := 2) (by simp)
          have f3 := (cl.out.o.z.1).free (j := 3) (by simp)
          have f4 := (cl.out.o.z.1).free (j := 4) (by simp)
          have f5 := (cl.out.o.z.1).free (j := 5) (by simp)
          have f6 := (cl.out.o.z.1).free (j := 6) (by simp)
          have f7 := (cl.out.o.z.1).free (j := 7) (by simp)
          have f8 := (cl.out.o.z.1).free (j := 8) (by simp)
          refine wpAnyH_ready (rs := [7]) (by kernel_rfl) (by simp) ?_
          refine AllReadyH.cons (o := _) rfl (fun K hK => ?_) AllReadyH.nil
          go_simp
          have cl2 := cl.out.box4 rfl (.int .i64 t.sc) (.string (bsB t.dt)) (.string (bsB t.vn)) (.string (bsB t.cm)) (.slice u1 t.S.length v1) (.slice u2 t.V.length v2) (.slice u3 t.G.length v3) (.slice u4 t.P.length v4) (.int .i64 t.en)
          unfold set9 at cl2
          generalize ((((((((W8.setCell ⟨g4, 0, none⟩ (.int .i64 t.sc)).setCell ⟨g4, 1, none⟩ (.string (bsB t.dt))).setCell ⟨g4, 2, none⟩ (.string (bsB t.vn))).setCell ⟨g4, 3, none⟩ (.string (bsB t.cm))).setCell ⟨g4, 4, none⟩ (.slice u1 t.S.length v1)).setCell ⟨g4, 5, none⟩ (.slice u2 t.V.length v2)).setCell ⟨g4, 6, none⟩ (.slice u3 t.G.length v3)).setCell ⟨g4, 7, none⟩ (.slice u4 t.P.length v4)).setCell ⟨g4, 8, none⟩ (.int .i64 t.en) = W9 at cl2 ⊢
          clear c0 c1 c2 c3 c4 c5 c6 c7 c8 f0 f1 f2 f3 f4 f5 f6 f7 f8 hHeld
          replace cl := Lib.hid cl2
          clear cl2
          refine hK.out _ _ cl.out.o.x.nine (fun hHeld => ?_)
          clear hK
          try simp only [Act.put, List.getElem_toArray, List.getElem_cons_succ, List.getElem_cons_zero, List.setIfInBounds_toArray, List.set_cons_zero, List.set_cons_succ]
          refine wpAnyH_done (by kernel_rfl) ?_ _
          clear hHeld
          go_wp2_with fail
          go_meet
          case rel => exact ⟨_, _, _, _, _, _, _, _, _, _, _, _, _, _, _, _, _, _, _, _, _, rfl, rfl, HQ1.out, HQ2.out, cl.out⟩
      · skip
        go_simp
        have st2 := st.out.a4
        generalize V0.alloc (.cells #[.int .i64 0, .string ⟨#[]⟩, .string ⟨#[]⟩, .string ⟨#[]⟩, .slice none 0 0, .slice none 0 0, .slice none 0 0, .slice none 0 0, .int .i64 0] 27) = V1 at st2 ⊢
        generalize V0.heap.size = g4 at st2 ⊢
        replace st := Lib.hid st2
        clear st2 hHeld
        refine hK.out _ _ st.out.x.nine (fun hHeld => ?_)
        clear hK
        try simp only [Act.put, List.getElem_toArray, List.getElem_cons_succ, List.getElem_cons_zero, List.setIfInBounds_toArray, List.set_cons_zero, List.set_cons_succ]
        refine wpAnyH_ready (rs := [1]) (by kernel_rfl) (by simp) ?_
        refine AllReadyH.cons (o := _) rfl (fun K hK => ?_) (AllReadyH.nil)
        go_simp
        refine (HCC.out V1 st.out.b).mono ?_
        rintro e V2 ⟨q1, rfl, hq, hb⟩
        obtain ⟨x1, y1, x2, y2, x3, y3, x4, y4, e1, i1, i2, i3, i4, -⟩ := hq.m0.open
        rw [e1]
        have HQ1 := Lib.hid (And.intro e1 (And.intro i1 (And.intro i2 (And.intro i3 i4))))
        replace st := Lib.hid (st.out.k1 hq hb)
        clear hHeld hq hb e1 i1 i2 i3 i4
        go_wp2_with fail
        refine hK.out _ _ st.out.x.nine (fun hHeld => ?_)
        clear hK
        try simp only [Act.put, List.getElem_toArray, List.getElem_cons_succ, List.getElem_cons_zero, List.setIfInBounds_toArray, List.set_cons_zero, List.set_cons_succ]
        refine wpAnyH_ready (rs := [3]) (by kernel_rfl) (by simp) ?_
        refine AllReadyH.cons (o := _) rfl (fun K hK => ?_) (AllReadyH.nil)
        go_simp
        refine (HCC.out V2 st.out.b).mono ?_
        rintro e V3 ⟨q2, rfl, hq, hb⟩
        obtain ⟨u1, v1, u2, v2, u3, v3, u4, v4, e1, i1, i2, i3, i4, -⟩ := hq.m0.open
        rw [e1]
        have HQ2 := Lib.hid (And.intro e1 (And.intro i1 (And.intro i2 (And.intro i3 i4))))
        replace st := Lib.hid (st.out.k2 hq hb)
        clear hHeld hq hb e1 i1 i2 i3 i4
        go_wp2_with fail
        refine hK.out _ _ st.out.x.nine (fun hHeld => ?_)
        clear hK
        try simp only [Act.put, List.getElem_toArray, List.getElem_cons_succ, List.getElem_cons_zero, List.setIfInBounds_toArray, List.set_cons_zero, List.set_cons_succ]
        have cl := Lib.hid st.out.cl
        clear st
        have c0 := (cl.out.o.y.1).cell (j := 0) rfl
        have c1 := (cl.out.o.y.1).cell (j := 1) rfl
        have c2 := (cl.out.o.y.1).cell (j := 2) rfl
        have c3 := (cl.out.o.y.1).cell (j := 3) rfl
        have c4 := (cl.out.o.y.1).cell (j := 4) rfl
        have c5 := (cl.out.o.y.1).cell (j := 5) rfl
        have c6 := (cl.out.o.y.1).cell (j := 6) rfl
        have c7 := (cl.out.o.y.1).cell (j := 7) rfl
        have c8 := (cl.out.o.y.1).cell (j := 8) rfl
        have f0 := (cl.out.o.y.1).free (j := 0) (by simp)
        have f1 := (cl.out.o.y.1).free (j := 1) (by simp)
        have f2 := (cl.out.o.y.1).free (j := 2) (by simp)
        have f3 := (cl.out.o.y.1).free (j := 3) (by simp)
        have f4 := (cl.out.o.y.1).free (j := 4) (by simp)
        have f5 := (cl.out.o.y.1).free (j := 5) (by simp)
        have f6 := (cl.out.o.y.1).free (j := 6) (by simp)
        have f7 := (cl.out.o.y.1).free (j := 7) (by simp)
        have f8 := (cl.out.o.y.1).free (j := 8) (by simp)
        refine wpAnyH_ready (rs := [6]) (by kernel_rfl) (by simp) ?_
        refine AllReadyH.cons (o := _) rfl (fun K hK => ?_) AllReadyH.nil
        go_simp
        have cl2 := cl.out.box3 rfl (.int .i64 t.sc) (.string (bsB t.dt)) (.string (bsB t.vn)) (.string (bsB t.cm)) (.slice x1 t.S.length y1) (.slice x2 t.V.length y2) (.slice x3 t.G.length y3) (.slice x4 t.P.length y4) (.int .i64 t.en)
        unfold set9 at cl2
        generalize ((((((((V3.setCell ⟨g3, 0, none⟩ (.int .i64 t.sc)).setCell ⟨g3, 1, none⟩ (.string (bsB t.dt))).setCell ⟨g3, 2, none⟩ (.string (bsB t.vn))).setCell ⟨g3, 3, none⟩ (.string (bsB t.cm))).setCell ⟨g3, 4, none⟩ (.slice x1 t.S.length y1)).setCell ⟨g3, 5, none⟩ (.slice x2 t.V.length y2)).setCell ⟨g3, 6, none⟩ (.slice x3 t.G.length y3)).setCell ⟨g3, 7, none⟩ (.slice x4 t.P.length y4)).setCell ⟨g3, 8, none⟩ (.int .i64 t.en) = W8 at cl2 ⊢
        clear c0 c1 c2 c3 c4 c5 c6 c7 c8 f0 f1 f2 f3 f4 f5 f6 f7 f8 hHeld
        replace cl := Lib.hid cl2
        clear cl2
        refine hK.out _ _ cl.out.o.x.nine (fun hHeld => ?_)
        clear hK
        try simp only [Act.put, List.getElem_toArray, List.getElem_cons_succ, List.getElem_cons_zero, List.setIfInBounds_toArray, List.set_cons_zero, List.set_cons_succ]
        have c0 := (cl.out.o.z.1).cell (j := 0) rfl
        have c1 := (cl.out.o.z.1).cell (j := 1) rfl
        have c2 := (cl.out.o.z.1).cell (j := 2) rfl
        have c3 := (cl.out.o.z.1).cell (j := 3) rfl
        have c4 := (cl.out.o.z.1).cell (j := 4) rfl
        have c5 := (cl.out.o.z.1).cell (j := 5) rfl
        have c6 := (cl.out.o.z.1).cell (j := 6) rfl
        have c7 := (cl.out.o.z.1).cell (j := 7) rfl
        have c8 := (cl.out.o.z.1).cell (j := 8) rfl
        have f0 := (cl.out.o.z.1).free (j := 0) (by simp)
        have f1 := (cl.out.o.z.1).free (j := 1) (by simp)
        have f2 := (cl.out.o.z.1).free (j := 2) (by simp)
        have f3 := (cl.out.o.z.1).free (j := 3) (by simp)
        have f4 := (cl.out.o.z.1).free (j := 4) (by simp)
        have f5 := (cl.out.o.z.1).free (j := 5) (by simp)
        have f6 := (cl.out.o.z.1).free (j := 6) (by simp)
        have f7 := (cl.out.o.z.1).free (j := 7) (by simp)
        have f8 := (cl.out.o.z.1).free (j := 8) (by simp)
        refine wpAnyH_ready (rs := [7]) (by kernel_rfl) (by simp) ?_
        refine AllReadyH.cons (o := _) rfl (fun K hK => ?_) AllReadyH.nil
        go_simp
        have cl2 := cl.out.box4 rfl (.int .i64 t.sc) (.string (bsB t.dt)) (.string (bsB t.vn)) (.string (bsB t.cm)) (.slice u1 t.S.length v1) (.slice u2 t.V.length v2) (.slice u3 t.G.length v3) (.slice u4 t.P.length v4) (.int .i64 t.en)
        unfold set9 at cl2
        generalize ((((((((W8.setCell ⟨g4, 0, none⟩ (.int .i64 t.sc)).setCell ⟨g4, 1, none⟩ (.string (bsB t.dt))).setCell ⟨g4, 2, none⟩ (.string (bsB t.vn))).setCell ⟨g4, 3, none⟩ (.string (bsB t.cm))).setCell ⟨g4, 4, none⟩ (.slice u1 t.S.length v1)).setCell ⟨g4, 5, none⟩ (.slice u2 t.V.length v2)).setCell ⟨g4, 6, none⟩ (.slice u3 t.G.length v3)).setCell ⟨g4, 7, none⟩ (.slice u4 t.P.length v4)).setCell ⟨g4, 8, none⟩ (.int .i64 t.en) = W9 at cl2 ⊢
        clear c0 c1 c2 c3 c4 c5 c6 c7 c8 f0 f1 f2 f3 f4 f5 f6 f7 f8 hHeld
        replace cl := Lib.hid cl2
        clear cl2
        refine hK.out _ _ cl.out.o.x.nine (fun hHeld => ?_)
        clear hK
        try simp only [Act.put, List.getElem_toArray, List.getElem_cons_succ, List.getElem_cons_zero, List.setIfInBounds_toArray, List.set_cons_zero, List.set_cons_succ]
        refine wpAnyH_done (by kernel_rfl) ?_ _
        clear hHeld
        go_wp2_with fail
        go_meet
        case rel => exact ⟨_, _, _, _, _, _, _, _, _, _, _, _, _, _, _, _, _, _, _, _, _, rfl, rfl, HQ1.out, HQ2.out, cl.out⟩
    · skip
      go_simp
      have st2 := st.out.a4
      generalize W0.alloc (.cells #[.int .i64 0, .string ⟨#[]⟩, .string ⟨#[]⟩, .string ⟨#[]⟩, .slice none 0 0, .slice none 0 0, .slice none 0 0, .slice none 0 0, .int .i64 0] 27) = V0 at st2 ⊢
      generalize W0.heap.size = g4 at st2 ⊢
      replace st := Lib.hid st2
      clear st2 hHeld
      refine hK.out _ _ st.out.x.nine (fun hHeld => ?_)
      clear hK
      try simp only [Act.put, List.getElem_toArray, List.getElem_cons_succ, List.getElem_cons_zero, List.setIfInBounds_toArray, List.set_cons_zero, List.set_cons_succ]
      refine wpAnyH_ready (rs := [1, 4]) (by kernel_rfl) (by simp) ?_
      refine AllReadyH.cons (o := _) rfl (fun K hK => ?_) (AllReadyH.cons (o := _) rfl (fun K hK => ?_) (AllReadyH.nil))
      · skip
        go_simp
        refine (HCC.out V0 st.out.b).mono ?_
        rintro e V1 ⟨q1, rfl, hq, hb⟩
        obtain ⟨x1, y1, x2, y2, x3, y3, x4, y4, e1, i1, i2, i3, i4, -⟩ := hq.m0.open
        rw [e1]
        have HQ1 := Lib.hid (And.intro e1 (And.intro i1 (And.intro i2 (And.intro i3 i4))))
        replace st := Lib.hid (st.out.k1 hq hb)
        clear hHeld hq hb e1 i1 i2 i3 i4
        go_wp2_with fail
        refine hK.out _ _ st.out.x.nine (fun hHeld => ?_)
        clear hK
        try simp only [Act.put, List.getElem_toArray, List.getElem_cons_succ, List.getElem_cons_zero, List.setIfInBounds_toArray, List.set_cons_zero, List.set_cons_succ]
        refine wpAnyH_ready (rs := [3, 4]) (by kernel_rfl) (by simp) ?_
        refine AllReadyH.cons (o := _) rfl (fun K hK => ?_) (AllReadyH.cons (o := _) rfl (fun K hK => ?_) (AllReadyH.nil))
        · skip
          go_simp
          refine (HCC.out V1 st.out.b).mono ?_
          rintro e V2 ⟨q2, rfl, hq, hb⟩
          obtain ⟨u1, v1, u2, v2, u3, v3, u4, v4, e1, i1, i2, i3, i4, -⟩ := hq.m0.open
          rw [e1]
          have HQ2 := Lib.hid (And.intro e1 (And.intro i1 (And.intro i2 (And.intro i3 i4))))
          replace st := Lib.hid (st.out.k2 hq hb)
          clear hHeld hq hb e1 i1 i2 i3 i4
          go_wp2_with fail
          refine hK.out _ _ st.out.x.nine (fun hHeld => ?_)
          clear hK
          try simp only [Act.put, List.getElem_toArray, List.getElem_cons_succ, List.getElem_cons_zero, List.setIfInBounds_toArray, List.set_cons_zero, List.set_cons_succ]
          refine wpAnyH_ready (rs := [4]) (by kernel_rfl) (by simp) ?_
          refine AllReadyH.cons (o := _) rfl (fun K hK => ?_) (AllReadyH.nil)
          go_simp
          have st2 := st.out.a3
          generalize V2.alloc (.cells #[.int .i64 0, .string ⟨#[]⟩, .string ⟨#[]⟩, .string ⟨#[]⟩, .slice none 0 0, .slice none 0 0, .slice none 0 0, .slice none 0 0, .int .i64 0] 27) = V3 at st2 ⊢
          generalize V2.heap.size = g3 at st2 ⊢
          replace st := Lib.hid st2
          clear st2 hHeld
          refine hK.out _ _ st.out.x.nine (fun hHeld => ?_)
          clear hK
          try simp only [Act.put, List.getElem_toArray, List.getElem_cons_succ, List.getElem_cons_zero, List.setIfInBounds_toArray, List.set_cons_zero, List.set_cons_succ]
          have cl := Lib.hid st.out.cl
          clear st
          have c0 := (cl.out.o.y.1).cell (j := 0) rfl
          have c1 := (cl.out.o.y.1).cell (j := 1) rfl
          have c2 := (cl.out.o.y.1).cell (j := 2) rfl
          have c3 := (cl.out.o.y.1).cell (j := 3) rfl
          have c4 := (cl.out.o.y.1).cell (j := 4) rfl
          have c5 := (cl.out.o.y.1).cell (j := 5) rfl
          have c6 := (cl.out.o.y.1).cell (j := 6) rfl
          have c7 := (cl.out.o.y.1).cell (j := 7) rfl
          have c8 := (cl.out.o.y.1).cell (j := 8) rfl
          have f0 := (cl.out.o.y.1).free (j := 0) (by simp)
          have f1 := (cl.out.o.y.1).free (j := 1) (by simp)
          have f2 := (cl.out.o.y.1).free (j := 2) (by simp)
          have f3 := (cl.out.o.y.1).free (j := 3) (by simp)
          have f4 := (cl.out.o.y.1).free (j := 4) (by simp)
          have f5 := (cl.out.o.y.1).free (j := 5) (by simp)
          have f6 := (cl.out.o.y.1).free (j := 6) (by simp)
          have f7 := (cl.out.o.y.1).free (j := 7) (by simp)
          have f8 := (cl.out.o.y.1).free (j := 8) (by simp)
          refine wpAnyH_ready (rs := [6]) (by kernel_rfl) (by simp) ?_
          refine AllReadyH.cons (o := _) rfl (fun K hK => ?_) AllReadyH.nil
          go_simp
          have cl2 := cl.out.box3 rfl (.int .i64 t.sc) (.string (bsB t.dt)) (.string (bsB t.vn)) (.string (bsB t.cm)) (.slice x1 t.S.length y1) (.slice x2 t.V.length y2) (.slice x3 t.G.length y3) (.slice x4 t.P.length y4) (.int .i64 t.en)
          unfold set9 at cl2
          generalize ((((((((V3.setCell ⟨g3, 0, none⟩ (.int .i64 t.sc)).setCell ⟨g3, 1, none⟩ (.string (bsB t.dt))).setCell ⟨g3, 2, none⟩ (.string (bsB t.vn))).setCell ⟨g3, 3, none⟩ (.string (bsB t.cm))).setCell ⟨g3, 4, none⟩ (.slice x1 t.S.length y1)).setCell ⟨g3, 5, none⟩ (.slice x2 t.V.length y2)).setCell ⟨g3, 6, none⟩ (.slice x3 t.G.length y3)).setCell ⟨g3, 7, none⟩ (.slice x4 t.P.length y4)).setCell ⟨g3, 8, none⟩ (.int .i64 t.en) = W8 at cl2 ⊢
          clear c0 c1 c2 c3 c4 c5 c6 c7 c8 f0 f1 f2 f3 f4 f5 f6 f7 f8 hHeld
          replace cl := Lib.hid cl2
          clear cl2
          refine hK.out _ _ cl.out.o.x.nine (fun hHeld => ?_)
          clear hK
          try simp only [Act.put, List.getElem_toArray, List.getElem_cons_succ, List.getElem_cons_zero, List.setIfInBounds_toArray, List.set_cons_zero, List.set_cons_succ]
          have c0 := (cl.out.o.z.1).cell (j := 0) rfl
          have c1 := (cl.out.o.z.1).cell (j := 1) rfl
          have c2 := (cl.out.o.z.1).cell (j := 2) rfl
          have c3 := (cl.out.o.z.1).cell (j := 3) rfl
          have c4 := (cl.out.o.z.1).cell (j := 4) rfl
          have c5 := (cl.out.o.z.1).cell (j := 5) rfl
          have c6 := (cl.out.o.z.1).cell (j := 6) rfl
          have c7 := (cl.out.o.z.1).cell (j := 7) rfl
          have c8 := (cl.out.o.z.1).cell (j := 8) rfl
          have f0 := (cl.out.o.z.1).free (j := 0) (by simp)
          have f1 := (cl.out.o.z.1).free (j := 1) (by simp)
          have f2 := (cl.out.o.z.1).free (j := 2) (by simp)
          have f3 := (cl.out.o.z.1).free (j := 3) (by simp)
          have f4 := (cl.out.o.z.1).free (j := 4) (by simp)
          have f5 := (cl.out.o.z.1).free (j := 5) (by simp)
          have f6 := (cl.out.o.z.1).free (j := 6) (by simp)
          have f7 := (cl.out.o.z.1).free (j := 7) (by simp)
          have f8 := (cl.out.o.z.1).free (j := 8) (by simp)
          refine wpAnyH_ready (rs := [7]) (by kernel_rfl) (by simp) ?_
          refine AllReadyH.cons (o := _) rfl (fun K hK => ?_) AllReadyH.nil
          go_simp
          have cl2 := cl.out.box4 rfl (.int .i64 t.sc) (.string (bsB t.dt)) (.string (bsB t.vn)) (.string (bsB t.cm)) (.slice u1 t.S.length v1) (.slice u2 t.V.length v2) (.slice u3 t.G.length v3) (.slice u4 t.P.length v4) (.int .i64 t.en)
          unfold set9 at cl2
          generalize ((((((((W8.setCell ⟨g4, 0, none⟩ (.int .i64 t.sc)).setCell ⟨g4, 1, none⟩ (.string (bsB t.dt))).setCell ⟨g4, 2, none⟩ (.string (bsB t.vn))).setCell ⟨g4, 3, none⟩ (.string (bsB t.cm))).setCell ⟨g4, 4, none⟩ (.slice u1 t.S.length v1)).setCell ⟨g4, 5, none⟩ (.slice u2 t.V.length v2)).setCell ⟨g4, 6, none⟩ (.slice u3 t.G.length v3)).setCell ⟨g4, 7, none⟩ (.slice u4 t.P.length v4)).setCell ⟨g4, 8, none⟩ (.int .i64 t.en) = W9 at cl2 ⊢
          clear c0 c1 c2 c3 c4 c5 c6 c7 c8 f0 f1 f2 f3 f4 f5 f6 f7 f8 hHeld
          replace cl := Lib.hid cl2
          clear cl2
          refine hK.out _ _ cl.out.o.x.nine (fun hHeld => ?_)
          clear hK
          try simp only [Act.put, List.getElem_toArray, List.getElem_cons_succ, List.getElem_cons_zero, List.setIfInBounds_toArray, List.set_cons_zero, List.set_cons_succ]
          refine wpAnyH_done (by kernel_rfl) ?_ _
          clear hHeld
          go_wp2_with fail
          go_meet
          case rel => exact ⟨_, _, _, _, _, _, _, _, _, _, _, _, _, _, _, _, _, _, _, _, _, rfl, rfl, HQ1.out, HQ2.out, cl.out⟩
        · skip
          go_simp
          have st2 := st.out.a3
          generalize V1.alloc (.cells #[.int .i64 0, .string ⟨#[]⟩, .string ⟨#[]⟩, .string ⟨#[]⟩, .slice none 0 0, .slice none 0 0, .slice none 0 0, .slice none 0 0, .int .i64 0] 27) = V2 at st2 ⊢
          generalize V1.heap.size = g3 at st2 ⊢
          replace st := Lib.hid st2
          clear st2 hHeld
          refine hK.out _ _ st.out.x.nine (fun hHeld => ?_)
          clear hK
          try simp only [Act.put, List.getElem_toArray, List.getElem_cons_succ, List.getElem_cons_zero, List.setIfInBounds_toArray, List.set_cons_zero, List.set_cons_succ]
          refine wpAnyH_ready (rs := [3]) (by kernel_rfl) (by simp) ?_
          refine AllReadyH.cons (o := _) rfl (fun K hK => ?_) (AllReadyH.nil)
          go_simp
          refine (HCC.out V2 st.out.b).mono ?_
          rintro e V3 ⟨q2, rfl, hq, hb⟩
          obtain ⟨u1, v1, u2, v2, u3, v3, u4, v4, e1, i1, i2, i3, i4, -⟩ := hq.m0.open
          rw [e1]
          have HQ2 := Lib.hid (And.intro e1 (And.intro i1 (And.intro i2 (And.intro i3 i4))))
          replace st := Lib.hid (st.out.k2 hq hb)
          clear hHeld hq hb e1 i1 i2 i3 i4
          go_wp2_with fail
          refine hK.out _ _ st.out.x.nine (fun hHeld => ?_)
          clear hK
          try simp only [Act.put, List.getElem_toArray, List.getElem_cons_succ, List.getElem_cons_zero, List.setIfInBounds_toArray, List.set_cons_zero, List.set_cons_succ]
          have cl := Lib.hid st.out.cl
          clear st
          have c0 := (cl.out.o.y.1).cell (j := 0) rfl
          have c1 := (cl.out.o.y.1).cell (j := 1) rfl
          have c2 := (cl.out.o.y.1).cell (j := 2) rfl
          have c3 := (cl.out.o.y.1).cell (j := 3) rfl
          have c4 := (cl.out.o.y.1).cell (j := 4) rfl
          have c5 := (cl.out.o.y.1).cell (j := 5) rfl
          have c6 := (cl.out.o.y.1).cell (j := 6) rfl
          have c7 := (cl.out.o.y.1).cell (j := 7) rfl
          have c8 := (cl.out.o.y.1).cell (j := 8) rfl
          have f0 := (cl.out.o.y.1).free (j := 0) (by simp)
          have f1 := (cl.out.o.y.1).free (j := 1) (by simp)
          have f2 := (cl.out.o.y.1).free (j := 2) (by simp)
          have f3 := (cl.out.o.y.1).free (j := 3) (by simp)
          have f4 := (cl.out.o.y.1).free (j := 4) (by simp)
          have f5 := (cl.out.o.y.1).free (j := 5) (by simp)
          have f6 := (cl.out.o.y.1).free (j := 6) (by simp)
          have f7 := (cl.out.o.y.1).free (j := 7) (by simp)
          have f8 := (cl.out.o.y.1).free (j := 8) (by simp)
          refine wpAnyH_ready (rs := [6]) (by kernel_rfl) (by simp) ?_
          refine AllReadyH.cons (o := _) rfl (fun K hK => ?_) AllReadyH.nil
          go_simp
          have cl2 := cl.out.box3 rfl (.int .i64 t.sc) (.string (bsB t.dt)) (.string (bsB t.vn)) (.string (bsB t.cm)) (.slice x1 t.S.length y1) (.slice x2 t.V.length y2) (.slice x3 t.G.length y3) (.slice x4 t.P.length y4) (.int .i64 t.en)
          unfold set9 at cl2
          generalize ((((((((V3.setCell ⟨g3, 0, none⟩ (.int .i64 t.sc)).setCell ⟨g3, 1, none⟩ (.string (bsB t.dt))).setCell ⟨g3, 2, none⟩ (.string (bsB t.vn))).setCell ⟨g3, 3, none⟩ (.string (bsB t.cm))).setCell ⟨g3, 4, none⟩ (.slice x1 t.S.length y1)).setCell ⟨g3, 5, none⟩ (.slice x2 t.V.length y2)).setCell ⟨g3, 6, none⟩ (.slice x3 t.G.length y3)).setCell ⟨g3, 7, none⟩ (.slice x4 t.P.length y4)).setCell ⟨g3, 8, none⟩ (.int .i64 t.en) = W8 at cl2 ⊢
          clear c0 c1 c2 c3 c4 c5 c6 c7 c8 f0 f1 f2 f3 f4 f5 f6 f7 f8 hHeld
          replace cl := Lib.hid cl2
          clear cl2
          refine hK.out _ _ cl.out.o.x.nine (fun hHeld => ?_)
          clear hK
          try simp only [Act.put, List.getElem_toArray, List.getElem_cons_succ, List.getElem_cons_zero, List.setIfInBounds_toArray, List.set_cons_zero, List.set_cons_succ]
          have c0 := (cl.out.o.z.1).cell (j := 0) rfl
          have c1 := (cl.out.o.z.1).cell (j := 1) rfl
          have c2 := (cl.out.o.z.1).cell (j := 2) rfl
          have c3 := (cl.out.o.z.1).cell (j := 3) rfl
          have c4 := (cl.out.o.z.1).cell (j := 4) rfl
          have c5 := (cl.out.o.z.1).cell (j := 5) rfl
          have c6 := (cl.out.o.z.1).cell (j := 6) rfl
          have c7 := (cl.out.o.z.1).cell (j := 7) rfl
          have c8 := (cl.out.o.z.1).cell (j := 8) rfl
          have f0 := (cl.out.o.z.1).free (j := 0) (by simp)
          have f1 := (cl.out.o.z.1).free (j := 1) (by simp)
          have f2 := (cl.out.o.z.1).free (j := 2) (by simp)
          have f3 := (cl.out.o.z.1).free (j := 3) (by simp)
          have f4 := (cl.out.o.z.1).free (j := 4) (by simp)
          have f5 := (cl.out.o.z.1).free (j := 5) (by simp)
          have f6 := (cl.out.o.z.1).free (j := 6) (by simp)
          have f7 := (cl.out.o.z.1).free (j := 7) (by simp)
          have f8 := (cl.out.o.z.1).free (j := 8) (by simp)
          refine wpAnyH_ready (rs := [7]) (by kernel_rfl) (by simp) ?_
          refine AllReadyH.cons (o := _) rfl (fun K hK => ?_) AllReadyH.nil
          go_simp
          have cl2 := cl.out.box4 rfl (.int .i64 t.sc) (.string (bsB t.dt)) (.string (bsB t.vn)) (.string (bsB t.cm)) (.slice u1 t.S.length v1) (.slice u2 t.V.length v2) (.slice u3 t.G.length v3) (.slice u4 t.P.length v4) (.int .i64 t.en)
          unfold set9 at cl2
          generalize ((((((((W8.setCell ⟨g4, 0, none⟩ (.int .i64 t.sc)).setCell ⟨g4, 1, none⟩ (.string (bsB t.dt))).setCell ⟨g4, 2, none⟩ (.string (bsB t.vn))).setCell ⟨g4, 3, none⟩ (.string (bsB t.cm))).setCell ⟨g4, 4, none⟩ (.slice u1 t.S.length v1)).setCell ⟨g4, 5, none⟩ (.slice u2 t.V.length v2)).setCell ⟨g4, 6, none⟩ (.slice u3 t.G.length v3)).setCell ⟨g4, 7, none⟩ (.slice u4 t.P.length v4)).setCell ⟨g4, 8, none⟩ (.int .i64 t.en) = W9 at cl2 ⊢
          clear c0 c1 c2 c3 c4 c5 c6 c7 c8 f0 f1 f2 f3 f4 f5 f6 f7 f8 hHeld
          replace cl := Lib.hid cl2
          clear cl2
          refine hK.out _ _ cl.out.o.x.nine (fun hHeld => ?_)
          clear hK
          try simp only [Act.put, List.getElem_toArray, List.getElem_cons_succ, List.getElem_cons_zero, List.setIfInBounds_toArray, List.set_cons_zero, List.set_cons_succ]
          refine wpAnyH_done (by kernel_rfl) ?_ _
          clear hHeld
          go_wp2_with fail
          go_meet
          case rel => exact ⟨_, _, _, _, _, _, _, _, _, _, _, _, _, _, _, _, _, _, _, _, _, rfl, rfl, HQ1.out, HQ2.out, cl.out⟩
      · skip
        go_simp
        have st2 := st.out.a3
        generalize V0.alloc (.cells #[.int .i64 0, .string ⟨#[]⟩, .string ⟨#[]⟩, .string ⟨#[]⟩, .slice none 0 0, .slice none 0 0, .slice none 0 0, .slice none 0 0, .int .i64 0] 27) = V1 at st2 ⊢
        generalize V0.heap.size = g3 at st2 ⊢
        replace st := Lib.hid st2
        clear st2 hHeld
        refine hK.out _ _ st.out.x.nine (fun hHeld => ?_)
        clear hK
        try simp only [Act.put, List.getElem_toArray, List.getElem_cons_succ, List.getElem_cons_zero, List.setIfInBounds_toArray, List.set_cons_zero, List.set_cons_succ]
        refine wpAnyH_ready (rs := [1]) (by kernel_rfl) (by simp) ?_
        refine AllReadyH.cons (o := _) rfl (fun K hK => ?_) (AllReadyH.nil)
        go_simp
        refine (HCC.out V1 st.out.b).mono ?_
        rintro e V2 ⟨q1, rfl, hq, hb⟩
        obtain ⟨x1, y1, x2, y2, x3, y3, x4, y4, e1, i1, i2, i3, i4, -⟩ := hq.m0.open
        rw [e1]
        have HQ1 := Lib.hid (And.intro e1 (And.intro i1 (And.intro i2 (And.intro i3 i4))))
        replace st := Lib.hid (st.out.k1 hq hb)
        clear hHeld hq hb e1 i1 i2 i3 i4
        go_wp2_with fail
        refine hK.out _ _ st.out.x.nine (fun hHeld => ?_)
        clear hK
        try simp only [Act.put, List.getElem_toArray, List.getElem_cons_succ, List.getElem_cons_zero, List.setIfInBounds_toArray, List.set_cons_zero, List.set_cons_succ]
        refine wpAnyH_ready (rs := [3]) (by kernel_rfl) (by simp) ?_
        refine AllReadyH.cons (o := _) rfl (fun K hK => ?_) (AllReadyH.nil)
        go_simp
        refine (HCC.out V2 st.out.b).mono ?_
        rintro e V3 ⟨q2, rfl, hq, hb⟩
        obtain ⟨u1, v1, u2, v2, u3, v3, u4, v4, e1, i1, i2, i3, i4, -⟩ := hq.m0.open
        rw [e1]
        have HQ2 := Lib.hid (And.intro e1 (And.intro i1 (And.intro i2 (And.intro i3 i4))))
        replace st := Lib.hid (st.out.k2 hq hb)
        clear hHeld hq hb e1 i1 i2 i3 i4
        go_wp2_with fail
        refine hK.out _ _ st.out.x.nine (fun hHeld => ?_)
        clear hK
        try simp only [Act.put, List.getElem_toArray, List.getElem_cons_succ, List.getElem_cons_zero, List.setIfInBounds_toArray, List.set_cons_zero, List.set_cons_succ]
        have cl := Lib.hid st.out.cl
        clear st
        have c0 := (cl.out.o.y.1).cell (j := 0) rfl
        have c1 := (cl.out.o.y.1).cell (j := 1) rfl
        have c2 := (cl.out.o.y.1).cell (j := 2) rfl
        have c3 := (cl.out.o.y.1).cell (j := 3) rfl
        have c4 := (cl.out.o.y.1).cell (j := 4) rfl
        have c5 := (cl.out.o.y.1).cell (j := 5) rfl
        have c6 := (cl.out.o.y.1).cell (j := 6) rfl
        have c7 := (cl.out.o.y.1).cell (j := 7) rfl
        have c8 := (cl.out.o.y.1).cell (j := 8) rfl
        have f0 := (cl.out.o.y.1).free (j := 0) (by simp)
        have f1 := (cl.out.o.y.1).free (j := 1) (by simp)
        have f2 := (cl.out.o.y.1).free (j := 2) (by simp)
        have f3 := (cl.out.o.y.1).free (j := 3) (by simp)
        have f4 := (cl.out.o.y.1).free (j := 4) (by simp)
        have f5 := (cl.out.o.y.1).free (j := 5) (by simp)
        have f6 := (cl.out.o.y.1).free (j := 6) (by simp)
        have f7 := (cl.out.o.y.1).free (j := 7) (by simp)
        have f8 := (cl.out.o.y.1).free (j := 8) (by simp)
        refine wpAnyH_ready (rs := [6]) (by kernel_rfl) (by simp) ?_
        refine AllReadyH.cons (o := _) rfl (fun K hK => ?_) AllReadyH.nil
        go_simp
        have cl2 := cl.out.box3 rfl (.int .i64 t.sc) (.string (bsB t.dt)) (.string (bsB t.vn)) (.string (bsB t.cm)) (.slice x1 t.S.length y1) (.slice x2 t.V.length y2) (.slice x3 t.G.length y3) (.slice x4 t.P.length y4) (.int .i64 t.en)
        unfold set9 at cl2
        generalize ((((((((V3.setCell ⟨g3, 0, none⟩ (.int .i64 t.sc)).setCell ⟨g3, 1, none⟩ (.string (bsB t.dt))).setCell ⟨g3, 2, none⟩ (.string (bsB t.vn))).setCell ⟨g3, 3, none⟩ (.string (bsB t.cm))).setCell ⟨g3, 4, none⟩ (.slice x1 t.S.length y1)).setCell ⟨g3, 5, none⟩ (.slice x2 t.V.length y2)).setCell ⟨g3, 6, none⟩ (.slice x3 t.G.length y3)).setCell ⟨g3, 7, none⟩ (.slice x4 t.P.length y4)).setCell ⟨g3, 8, none⟩ (.int .i64 t.en) = W8 at cl2 ⊢
        clear c0 c1 c2 c3 c4 c5 c6 c7 c8 f0 f1 f2 f3 f4 f5 f6 f7 f8 hHeld
        replace cl := Lib.hid cl2
        clear cl2
        refine hK.out _ _ cl.out.o.x.nine (fun hHeld => ?_)
        clear hK
        try simp only [Act.put, List.getElem_toArray, List.getElem_cons_succ, List.getElem_cons_zero, List.setIfInBounds_toArray, List.set_cons_zero, List.set_cons_succ]
        have c0 := (cl.out.o.z.1).cell (j := 0) rfl
        have c1 := (cl.out.o.z.1).cell (j := 1) rfl
        have c2 := (cl.out.o.z.1).cell (j := 2) rfl
        have c3 := (cl.out.o.z.1).cell (j := 3) rfl
        have c4 := (cl.out.o.z.1).cell (j := 4) rfl
        have c5 := (cl.out.o.z.1).cell (j := 5) rfl
        have c6 := (cl.out.o.z.1).cell (j := 6) rfl
        have c7 := (cl.out.o.z.1).cell (j := 7) rfl
        have c8 := (cl.out.o.z.1).cell (j := 8) rfl
        have f0 := (cl.out.o.z.1).free (j := 0) (by simp)
        have f1 := (cl.out.o.z.1).free (j := 1) (by simp)
        have f2 := (cl.out.o.z.1).free (j := 2) (by simp)
        have f3 := (cl.out.o.z.1).free (j := 3) (by simp)
        have f4 := (cl.out.o.z.1).free (j := 4) (by simp)
        have f5 := (cl.out.o.z.1).free (j := 5) (by simp)
        have f6 := (cl.out.o.z.1).free (j := 6) (by simp)
        have f7 := (cl.out.o.z.1).free (j := 7) (by simp)
        have f8 := (cl.out.o.z.1).free (j := 8) (by simp)
        refine wpAnyH_ready (rs := [7]) (by kernel_rfl) (by simp) ?_
        refine AllReadyH.cons (o := _) rfl (fun K hK => ?_) AllReadyH.nil
        go_simp
        have cl2 := cl.out.box4 rfl (.int .i64 t.sc) (.string (bsB t.dt)) (.string (bsB t.vn)) (.string (bsB t.cm)) (.slice u1 t.S.length v1) (.slice u2 t.V.length v2) (.slice u3 t.G.length v3) (.slice u4 t.P.length v4) (.int .i64 t.en)
        unfold set9 at cl2
        generalize ((((((((W8.setCell ⟨g4, 0, none⟩ (.int .i64 t.sc)).setCell ⟨g4, 1, none⟩ (.string (bsB t.dt))).setCell ⟨g4, 2, none⟩ (.string (bsB t.vn))).setCell ⟨g4, 3, none⟩ (.string (bsB t.cm))).setCell ⟨g4, 4, none⟩ (.slice u1 t.S.length v1)).setCell ⟨g4, 5, none⟩ (.slice u2 t.V.length v2)).setCell ⟨g4, 6, none⟩ (.slice u3 t.G.length v3)).setCell ⟨g4, 7, none⟩ (.slice u4 t.P.length v4)).setCell ⟨g4, 8, none⟩ (.int .i64 t.en) = W9 at cl2 ⊢
        clear c0 c1 c2 c3 c4 c5 c6 c7 c8 f0 f1 f2 f3 f4 f5 f6 f7 f8 hHeld
        replace cl := Lib.hid cl2
        clear cl2
        refine hK.out _ _ cl.out.o.x.nine (fun hHeld => ?_)
        clear hK
        try simp only [Act.put, List.getElem_toArray, List.getElem_cons_succ, List.getElem_cons_zero, List.setIfInBounds_toArray, List.set_cons_zero, List.set_cons_succ]
        refine wpAnyH_done (by kernel_rfl) ?_ _
        clear hHeld
        go_wp2_with fail
        go_meet
        case rel => exact ⟨_, _, _, _, _, _, _, _, _, _, _, _, _, _, _, _, _, _, _, _, _, rfl, rfl, HQ1.out, HQ2.out, cl.out⟩
  case rest =>
    obtain ⟨q, d, D, g3, g4, x1, x2, x3, x4, y1, y2, y3, y4, z1, z2, z3, z4, m1, m2, m3, m4, rfl, rfl, hq, hd, hcl⟩ := hcut
    have HQ := Lib.hid hq
    have HD := Lib.hid hd
    have HC := Lib.hid hcl
    have heq := tr_Equal t t q p wc hcl.c.o.m0 (HT.out.below (ext_trans HB3.out hcl.o.b))
    rw [show eqT t t = true from eqT_iff.2 rfl, HQ.out.1, HE.out] at heq
    have HEQ := Lib.hid heq
    obtain ⟨p0, p1, p2, p3, p4, p5, p6, p7, p8⟩ := hcl.o.x.nine
    obtain ⟨c0, c1, c2, c3, c4, c5, c6, c7, c8⟩ := hcl.o.y.nine
    clear hq hd hcl heq HCC
    go_wp2_with fail
    refine HEQ.out.mono ?_
    rintro e w5 ⟨rfl, hb5⟩
    have HC5 := Lib.hid (HC.out.step hb5 HC.out.o.b.size)
    clear hb5 HEQ p0 p1 p2 p3 p4 p5 p6 p7 p8 c0 c1 c2 c3 c4 c5 c6 c7 c8 HC
    have HQL := Lib.hid (HC5.out.c.o.m0.len)
    have HFT := Lib.hid HV.out.ft
    have HQM := Lib.hid HC5.out.c.o.m
    have p6 := HC5.out.o.x.nine.2.2.2.2.2.2.1
    have c6 := HC5.out.o.y.nine.2.2.2.2.2.2.1
    go_wp2_with fail
    clear p6 c6
    go_loopw [35] (fun i wr => ∃ k : Nat, k ≤ t.G.length ∧ i = .int .i64 k ∧ ∃ M, KM q.M (modN kUp k (t.G.map fun s => s.1)) M ∧ CL w3.heap.size D w.heap.size g3 g4 (boxT t a1 a2 a3 a4 k1 k2 k3 k4) (boxT t x1 x2 x3 x4 y1 y2 y3 y4) (boxT t z1 z2 z3 z4 m1 m2 m3 m4) w3 wr t d { t with G := M.map Prod.fst } { q with M := M }) (fun i _ => t.G.length - (intOf i).toNat)
    case atStart => exact ⟨0, Nat.zero_le _, rfl, _, KM.start HC5.out, HC5.out.start⟩
    case round =>
      clear HC5
      obtain ⟨k, hk, rfl, M, hkm, hcl⟩ := hrel
      have hlM : M.length = t.G.length := hkm.len.trans HQL.out
      have c6 : wr.cell? ⟨g3, 6, none⟩ = some (.slice x3 t.G.length y3) := hcl.o.y.nine.2.2.2.2.2.2.1
      have hg1 := HFT.out.2.2.1
      by_cases hlt : k < t.G.length
      · obtain ⟨g, cap, y, -, hvg, k0, k2, -, -⟩ := hcl.kinds (i := k) (by omega)
        have hw1 := nat_wrap k (by omega)
        have hx := HQ.out.2.2.2.1
        have hvg : q.vg = .slice (some ⟨g, 0, none⟩) M.length cap := hvg
        rw [hvg] at hx
        injection hx with hx _ _
        subst hx
        obtain ⟨a5, a6⟩ := hkm.at (i := k) (by omega) (by rw [HQL.out]; exact hlt)
        obtain ⟨ca, cc, hcv0, -, -⟩ := (SlR.of_own (hcl.c.o.c (M[k]'(by omega)) (List.getElem_mem _))).shape
        have hcv : (M[k]'(by omega)).2 = .slice ca (M[k]'(by omega)).1.2.2.length cc := hcv0
        clear hcv0
        rw [hcv] at k2
        rw [a6] at k2 hcv
        rw [a5] at hcv
        have hl5 : (q.M[k]'(by rw [HQL.out]; exact hlt)).1.2.2.length ≤ 100000 := HFT.out.2.2.2.2 _ (by
          have h9 := List.mem_map_of_mem (f := Prod.fst) (List.getElem_mem (l := q.M) (n := k) (by rw [HQL.out]; exact hlt))
          rw [HQM.out] at h9
          exact h9)
        have HCV := Lib.hid hcv
        obtain ⟨nn, hnn⟩ : ∃ nn, (q.M[k]'(by rw [HQL.out]; exact hlt)).1.2.2.length = nn := ⟨_, rfl⟩
        rw [hnn] at k2 hl5
        have HNN := Lib.hid hnn
        have HCL := Lib.hid hcl
        have HKM := Lib.hid hkm
        clear a5 a6 hcv hnn hcl hkm k0 hvg
        go_wp2_with fail
        clear c6 k2
        go_loopw [45] (fun i wr => ∃ j : Nat, j ≤ nn ∧ i = .int .i64 j ∧ ∃ M, KM q.M (modN kUp k (t.G.map fun s => s.1)) M ∧ CL w3.heap.size D w.heap.size g3 g4 (boxT t a1 a2 a3 a4 k1 k2 k3 k4) (boxT t x1 x2 (some ⟨g, 0, none⟩) x4 y1 y2 y3 y4) (boxT t z1 z2 z3 z4 m1 m2 m3 m4) w3 wr t d { t with G := M.map Prod.fst } { q with M := M }) (fun i _ => nn - (intOf i).toNat)
        case atStart => exact ⟨0, Nat.zero_le _, rfl, _, HKM.out, HCL.out⟩
        case round =>
          clear HCL HKM hlM
          obtain ⟨j, hj, rfl, M, hkm, hcl⟩ := hrel
          have hlM : M.length = t.G.length := hkm.len.trans HQL.out
          have c6 : wr.cell? ⟨g3, 6, none⟩ = some (.slice (some ⟨g, 0, none⟩) t.G.length y3) := hcl.o.y.nine.2.2.2.2.2.2.1
          obtain ⟨g', cap', y, hy, hvg, k0, k2, kf, kst⟩ := hcl.kinds (i := k) (by omega)
          obtain ⟨a5, a6⟩ := hkm.at (i := k) (by omega) (by rw [HQL.out]; exact hlt)
          rw [a5, HCV.out, HNN.out] at k2
          have hx := HQ.out.2.2.2.1
          have hvg : q.vg = .slice (some ⟨g', 0, none⟩) M.length cap' := hvg
          rw [hvg] at hx
          injection hx with hx _ _
          injection hx with hx
          injection hx with hx _ _
          subst hx
          by_cases hjt : j < nn
          · obtain ⟨gc, cc', z, hcv', t0, tf, tst⟩ := hcl.times (i := k) (k := j) (by omega) (by rw [a6, HNN.out]; exact hjt)
            rw [a5, HCV.out] at hcv'
            injection hcv' with hca _ _
            subst hca
            have HTS := Lib.hid tst
            have HKM := Lib.hid hkm
            have hw2 := nat_wrap j (by omega)
            clear a5 a6 hkm hcl tst kst kf k0 hvg hy
            go_wp2_with fail
            go_roundw
            case rel => exact ⟨j + 1, hjt, by go_num, _, HKM.out.time gc j _, HTS.out _⟩
            case measure => simp [intOf]; omega
          · obtain rfl : j = nn := by omega
            have HKD := Lib.hid (hkm.kind (i := k) (f := kUp) (y := kUp y) (fun _ => by rw [hy]))
            have HKS := Lib.hid (kst (kUp y))
            have HMS := Lib.hid (modN_step kUp (i := k) (l := t.G.map fun s => s.1) (by simpa using hlt))
            rw [HMS.out] at HKD
            rw [show kUp y = wrap64 (y + 1) from IntWalk.i64_left _] at HKD HKS
            clear a5 a6 hkm hcl kst hvg hy
            go_wp2_with fail
            go_roundw
            case rel => exact ⟨k + 1, hlt, by go_num, _, HKD.out, HKS.out⟩
            case measure => simp [intOf]; omega
      · obtain rfl : k = t.G.length := by omega
        have HKM := Lib.hid hkm
        have h2 := hcl
        rw [← chT_zero] at h2
        have HCL := Lib.hid h2
        clear hkm hcl h2 c6 hlt hk
        have c4 : wr.cell? ⟨g3, 4, none⟩ = some (.slice x1 t.S.length y1) := HCL.out.o.y.nine.2.2.2.2.1
        go_wp2_with fail
        clear c4
        go_loopw [75] (fun i wr => ∃ k : Nat, k ≤ t.S.length ∧ i = .int .i64 k ∧ CL w3.heap.size D w.heap.size g3 g4 (boxT t a1 a2 a3 a4 k1 k2 k3 k4) (boxT t x1 x2 x3 x4 y1 y2 y3 y4) (boxT t z1 z2 z3 z4 m1 m2 m3 m4) w3 wr t d (chT t M k 0 0) { q with M := M }) (fun i _ => t.S.length - (intOf i).toNat)
        case atStart => exact ⟨0, Nat.zero_le _, rfl, HCL.out⟩
        case round =>
          clear HCL
          obtain ⟨k, hk, rfl, hcl⟩ := hrel
          have c4 : wr.cell? ⟨g3, 4, none⟩ = some (.slice x1 t.S.length y1) := hcl.o.y.nine.2.2.2.2.1
          by_cases hlt : k < t.S.length
          · have hlk : k < (chT t M k 0 0).S.length := by rw [show (chT t M k 0 0).S = modN sUp k t.S from rfl, modN_len]; exact hlt
            obtain ⟨g, cap, hv, d0, df, hst⟩ := hcl.scopes hlk
            have hx : (chT t M k 0 0).S[k]'hlk = t.S[k] := modN_at sUp hlt hlk
            rw [hx] at d0
            have hv : q.vs = .slice (some ⟨g, 0, none⟩) (chT t M k 0 0).S.length cap := hv
            have he := HQ.out.2.1
            rw [hv] at he
            injection he with he _ _
            subst he
            have hw1 := nat_wrap k (by have := HFT.out; unfold FitT at this; omega)
            have hbz : (bsB t.S[k].1).size ≤ 140737488351232 := by rw [bsB_size]; exact (HI.out.s _ (List.getElem_mem hlt)).1
            have hst := hst (t.S[k].1 ++ [120])
            rw [chT_S hlt rfl, ← bsB_x] at hst
            have HST := Lib.hid hst
            clear hst hcl hx hv
            generalize t.S[k].1 = nm at *
            go_wp2_with fail
            go_roundw
            case rel => exact ⟨k + 1, hlt, by go_num, HST.out⟩
            case measure => simp [intOf]; omega
          · obtain rfl : k = t.S.length := by omega
            have HCL := Lib.hid hcl
            clear hcl c4 hlt hk
            have c5 : wr.cell? ⟨g3, 5, none⟩ = some (.slice x2 t.V.length y2) := HCL.out.o.y.nine.2.2.2.2.2.1
            go_wp2_with fail
            clear c5
            go_loopw [91] (fun i wr => ∃ k : Nat, k ≤ t.V.length ∧ i = .int .i64 k ∧ CL w3.heap.size D w.heap.size g3 g4 (boxT t a1 a2 a3 a4 k1 k2 k3 k4) (boxT t x1 x2 x3 x4 y1 y2 y3 y4) (boxT t z1 z2 z3 z4 m1 m2 m3 m4) w3 wr t d (chT t M t.S.length k 0) { q with M := M }) (fun i _ => t.V.length - (intOf i).toNat)
            case atStart => exact ⟨0, Nat.zero_le _, rfl, HCL.out⟩
            case round =>
              clear HCL
              obtain ⟨k, hk, rfl, hcl⟩ := hrel
              have c5 : wr.cell? ⟨g3, 5, none⟩ = some (.slice x2 t.V.length y2) := hcl.o.y.nine.2.2.2.2.2.1
              by_cases hlt : k < t.V.length
              · have hlk : k < (chT t M t.S.length k 0).V.length := by rw [show (chT t M t.S.length k 0).V = modN vUp k t.V from rfl, modN_len]; exact hlt
                obtain ⟨g, cap, hv, d0, df, hst⟩ := hcl.vars hlk
                have hx : (chT t M t.S.length k 0).V[k]'hlk = t.V[k] := modN_at vUp hlt hlk
                rw [hx] at d0
                have hv : q.vv = .slice (some ⟨g, 0, none⟩) (chT t M t.S.length k 0).V.length cap := hv
                have he := HQ.out.2.2.1
                rw [hv] at he
                injection he with he _ _
                subst he
                have hw1 := nat_wrap k (by have := HFT.out; unfold FitT at this; omega)
                have hbz : (bsB t.V[k].nm).size ≤ 140737488351232 := by rw [bsB_size]; exact (HI.out.v _ (List.getElem_mem hlt)).1
                have hst := hst (t.V[k].nm ++ [120])
                rw [chT_V hlt rfl, ← bsB_x] at hst
                have HST := Lib.hid hst
                clear hst hcl hx hv
                generalize t.V[k].nm = nm at *
                go_wp2_with fail
                go_roundw
                case rel => exact ⟨k + 1, hlt, by go_num, HST.out⟩
                case measure => simp [intOf]; omega
              · obtain rfl : k = t.V.length := by omega
                have HCL := Lib.hid hcl
                clear hcl c5 hlt hk
                have c7 : wr.cell? ⟨g3, 7, none⟩ = some (.slice x4 t.P.length y4) := HCL.out.o.y.nine.2.2.2.2.2.2.2.1
                go_wp2_with fail
                clear c7
                go_loopw [107] (fun i wr => ∃ k : Nat, k ≤ t.P.length ∧ i = .int .i64 k ∧ CL w3.heap.size D w.heap.size g3 g4 (boxT t a1 a2 a3 a4 k1 k2 k3 k4) (boxT t x1 x2 x3 x4 y1 y2 y3 y4) (boxT t z1 z2 z3 z4 m1 m2 m3 m4) w3 wr t d (chT t M t.S.length t.V.length k) { q with M := M }) (fun i _ => t.P.length - (intOf i).toNat)
                case atStart => exact ⟨0, Nat.zero_le _, rfl, HCL.out⟩
                case round =>
                  clear HCL
                  obtain ⟨k, hk, rfl, hcl⟩ := hrel
                  have c7 : wr.cell? ⟨g3, 7, none⟩ = some (.slice x4 t.P.length y4) := hcl.o.y.nine.2.2.2.2.2.2.2.1
                  by_cases hlt : k < t.P.length
                  · have hlk : k < (chT t M t.S.length t.V.length k).P.length := by rw [show (chT t M t.S.length t.V.length k).P = modN gUp k t.P from rfl, modN_len]; exact hlt
                    obtain ⟨g, cap, hv, d0, df, hst⟩ := hcl.gaps hlk
                    have hx : (chT t M t.S.length t.V.length k).P[k]'hlk = t.P[k] := modN_at gUp hlt hlk
                    rw [hx] at d0
                    have hv : q.vp = .slice (some ⟨g, 0, none⟩) (chT t M t.S.length t.V.length k).P.length cap := hv
                    have he := HQ.out.2.2.2.2
                    rw [hv] at he
                    injection he with he _ _
                    subst he
                    have hw1 := nat_wrap k (by have := HFT.out; unfold FitT at this; omega)
                    have hst := hst (IntKind.i64.wrap (t.P[k].2 + 1))
                    rw [chT_P hlt rfl, IntWalk.i64_left] at hst
                    have HST := Lib.hid hst
                    clear hst hcl hx hv
                    generalize t.P[k].2 = ge at *
                    go_wp2_with fail
                    go_roundw
                    case rel => exact ⟨k + 1, hlt, by go_num, HST.out⟩
                    case measure => simp [intOf]; omega
                  · obtain rfl : k = t.P.length := by omega
                    have HCL := Lib.hid hcl
                    clear hcl c7 hlt hk
                    have hbq := HCL.out.o.b
                    have HBX := Lib.hid (ext_trans HB3.out hbq)
                    have hdd := fun W (hb : Below wr.heap.size wr W) => tr_Equal t t d p W (HCL.out.o.d.m0.below hb) (HT.out.below (ext_trans HBX.out hb))
                    rw [show eqT t t = true from eqT_iff.2 rfl, HD.out.1, HE.out] at hdd
                    have HDD := Lib.hid hdd
                    have hcc := fun W (hb : Below wr.heap.size wr W) => tr_Equal (chT t M t.S.length t.V.length t.P.length) t { q with M := M } p W (HCL.out.c.o.m0.below hb) (HT.out.below (ext_trans HBX.out hb))
                    have hTP : TP.v { q with M := M } (chT t M t.S.length t.V.length t.P.length) = TP.v q t := by
                      unfold TP.v chT
                      dsimp only
                    rw [hTP, HQ.out.1, HE.out] at hcc
                    have HCC := Lib.hid hcc
                    have HNE := Lib.hid (fun h => (chT_ne HQM.out HKM.out).ne h)
                    obtain ⟨f1, f2, f3, f4, -⟩ := HFT.out
                    have r1 : IntKind.i64.wrap ((t.G.length : Int) + (t.S.length : Int)) = (t.G.length : Int) + (t.S.length : Int) := IntWalk.i64_in _ (by omega)
                    have r2 : IntKind.i64.wrap ((t.G.length : Int) + (t.S.length : Int) + (t.V.length : Int)) = (t.G.length : Int) + (t.S.length : Int) + (t.V.length : Int) := IntWalk.i64_in _ (by omega)
                    have r3 : IntKind.i64.wrap ((t.G.length : Int) + (t.S.length : Int) + (t.V.length : Int) + (t.P.length : Int)) = (t.G.length : Int) + (t.S.length : Int) + (t.V.length : Int) + (t.P.length : Int) := IntWalk.i64_in _ (by omega)
                    clear hdd hcc hbq hTP HQ HD HKM HQM f1 f2 f3 f4
                    obtain ⟨p0, p1, p2, p3, p4, p5, p6, p7, p8⟩ := HCL.out.o.x.nine
                    obtain ⟨d0, d1, d2, d3, d4, d5, d6, d7, d8⟩ := HCL.out.o.z.nine
                    by_cases hz : t.G.length + t.S.length + t.V.length + t.P.length = 0
                    · have hzb : ((t.G.length : Int) + (t.S.length : Int) + (t.V.length : Int) + (t.P.length : Int) == 0) = true := by rw [beq_iff_eq]; omega
                      have HDDw := Lib.hid (HDD.out wr (Below.refl _ _))
                      clear HNE HCC HDD
                      go_wp2_with fail
                      refine HDDw.out.mono ?_
                      rintro e w6 ⟨rfl, hb6⟩
                      have HX6 := Lib.hid (HCL.out.o.x.step hb6)
                      have HB6 := Lib.hid (ext_trans HBX.out hb6)
                      clear hb6 p0 p1 p2 p3 p4 p5 p6 p7 p8 d0 d1 d2 d3 d4 d5 d6 d7 d8
                      obtain ⟨p0, p1, p2, p3, p4, p5, p6, p7, p8⟩ := HX6.out.nine
                      go_wp2_with fail
                      go_ret
                      exact ⟨rfl, HB6.out⟩
                    · have hzb : ((t.G.length : Int) + (t.S.length : Int) + (t.V.length : Int) + (t.P.length : Int) == 0) = false := by rw [beq_eq_false_iff_ne]; omega
                      have HDDw := Lib.hid (HDD.out wr (Below.refl _ _))
                      have HEF := Lib.hid (HNE.out hz)
                      clear HNE HDD hz
                      go_wp2_with fail
                      refine HDDw.out.mono ?_
                      rintro e w6 ⟨rfl, hb6⟩
                      have HX6 := Lib.hid (HCL.out.o.x.step hb6)
                      have HY6 := Lib.hid (HCL.out.o.y.step hb6)
                      have HB6 := Lib.hid (ext_trans HBX.out hb6)
                      have hcw := HCC.out w6 hb6
                      rw [HEF.out] at hcw
                      have HCW := Lib.hid hcw
                      clear hb6 hcw p0 p1 p2 p3 p4 p5 p6 p7 p8 d0 d1 d2 d3 d4 d5 d6 d7 d8 HCC
                      obtain ⟨p0, p1, p2, p3, p4, p5, p6, p7, p8⟩ := HX6.out.nine
                      obtain ⟨c0, c1, c2, c3, c4, c5, c6, c7, c8⟩ := HY6.out.nine
                      go_wp2_with fail
                      refine HCW.out.mono ?_
                      rintro e w7 ⟨rfl, hb7⟩
                      have HB7 := Lib.hid (ext_trans HB6.out hb7)
                      clear hb7
                      go_wp2_with fail
                      go_ret
                      exact ⟨rfl, HB7.out⟩
end Go.Proofs.YtbiadennhnokhaaGreatDoor
