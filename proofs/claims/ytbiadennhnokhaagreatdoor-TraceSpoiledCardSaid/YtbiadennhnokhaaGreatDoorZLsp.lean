/- law23.TraceSpoiled. -/
import Derived.Test.YtbiadennhnokhaaGreatDoorZSpo
import Derived.Test.YtbiadennhnokhaaGreatDoorZ40
import Derived.Test.YtbiadennhnokhaaGreatDoorZ14
import Derived.Handy
import Derived.BigQuiet
import Derived.BigRegion
import Derived.Deep.RegionHeld3
import Derived.Deep.Cut
namespace Go.Proofs.YtbiadennhnokhaaGreatDoor
open Go.RowKit
set_option linter.unusedSimpArgs false

def gapB (P : List Gp) (en : Int) : Bool := match P.getLast? with
  | none => false
  | some g => decide (g.2 ≤ en)
theorem gapB_nil {P : List Gp} {en : Int} (h : P = []) : gapB P en = false := by rw [h]; rfl
theorem gapB_at {P : List Gp} {en : Int} {m : Nat} (h : P.length = m + 1) (hm : m < P.length) : gapB P en = decide (P[m].2 ≤ en) := by
  unfold gapB
  rw [List.getLast?_eq_getElem?, h, Nat.add_sub_cancel, List.getElem?_eq_getElem hm]
theorem valid_p {t : Tr} (h : validF t) : t.P.length ≤ 16 := by
  obtain ⟨P, en, hb⟩ := buildF_ok h
  obtain ⟨-, -, -, -, -, h16, -⟩ := hb.sigs
  have eP : t.P = P := congrArg Tr.P hb.eq
  rw [eP]
  exact h16
theorem fit0 : Fit ([] : List Ch) := ⟨by simp, fun c h => by cases h⟩
theorem fb_addG {t : Tr} (h : FB t) (k : Int) : FB { t with G := t.G ++ [(k, 0, [])] } :=
  ⟨h.tx, h.l, h.n, fun s hs => by
    rcases List.mem_append.1 hs with hs | hs
    · exact h.g s hs
    · rw [List.mem_singleton] at hs
      subst hs
      exact ⟨fit0, by simp⟩, h.p⟩
theorem fb_noP {t : Tr} (h : FB t) (en : Int) : FB { t with P := [], en := en } := ⟨h.tx, h.l, h.n, h.g, by simp⟩
theorem fb_addP {t : Tr} (h : FB t) (hp : t.P.length ≤ 16) (g : Gp) : FB { t with P := t.P ++ [g] } := ⟨h.tx, h.l, h.n, h.g, by simp; omega⟩
theorem fb_setG {t : Tr} (h : FB t) {G : List Sg} (hG : ∀ s ∈ G, s ∈ t.G) : FB { t with G := (2, 0, []) :: G } :=
  ⟨h.tx, h.l, h.n, fun s hs => by
    rcases List.mem_cons.1 hs with rfl | hs
    · exact ⟨fit0, by simp⟩
    · exact h.g s (hG s hs), h.p⟩
theorem not_valid {t : Tr} (h : ¬ validF t) : validB t = false := by
  rw [← Bool.not_eq_true, validB_iff]
  exact h
set_option maxHeartbeats 3200000 in
set_option maxRecDepth 100000 in
theorem law_TraceSpoiled (t : Tr) (p : TP) (w : World) (ht : TrM w t p) (hi : InT t) (hg : Glob w) (hm : Glm w) :
    Calls Tryz.prog 8 #[p.v t] w fun e w' => e = .returned (.bool true) ∧ Below w.heap.size w w' := by
  obtain ⟨a1, k1, a2, k2, a3, k3, a4, k4, e, -⟩ := ht.open
  have HT := Lib.hid ht
  have HI := Lib.hid hi
  have HG := Lib.hid hg
  have HM := Lib.hid hm
  have HE := Lib.hid e
  have HB1 := Lib.hid (below_new w (boxT t a1 a2 a3 a4 k1 k2 k3 k4) 27)
  have HX1 := Lib.hid (Bx.new w (boxT t a1 a2 a3 a4 k1 k2 k3 k4) 27)
  rw [e]
  clear ht hi hg hm e
  go_enter Tryz.func8, Tryz.ntmps8
  go_wp2_with fail
  generalize w.alloc (.cells (boxT t a1 a2 a3 a4 k1 k2 k3 k4) 27) = w1 at *
  refine (law_awake23 w1 (HG.out.below HB1.out) (HM.out.below HB1.out)).mono ?_
  rintro e w2 ⟨rfl, hb2⟩
  have HB2 := Lib.hid (ext_trans HB1.out hb2)
  have HX2 := Lib.hid (HX1.out.step hb2)
  obtain ⟨p0, p1, p2, p3, p4, p5, p6, p7, p8⟩ := HX2.out.nine
  have hfw := rf_Few23 t p 60 w2 (HT.out.below HB2.out) (by decide) ⟨by have := HI.out.tx; omega, by have := HI.out.tx; omega, by have := HI.out.tx; omega⟩
  rw [HE.out] at hfw
  have HFW := Lib.hid hfw
  clear hb2 hfw
  rcases Bool.eq_false_or_eq_true (fewT t 60) with hfew | hfew
  rotate_left
  · rw [hfew] at HFW
    clear hfew
    go_wp2_with fail
    refine HFW.out.mono ?_
    rintro e w3 ⟨rfl, hb3⟩
    have HB3 := Lib.hid (ext_trans HB2.out hb3)
    clear hb3
    go_wp2_with fail
    go_ret
    exact ⟨rfl, HB3.out⟩
  have HV := Lib.hid (few_fit (by decide) (by decide) hfew (fun x hx => (HI.out.v x hx).2.2.2.1) (fun s hs c hc => ((HI.out.g s hs).2.2 c hc).1))
  rw [hfew] at HFW
  clear hfew
  go_wp2_with fail
  refine HFW.out.mono ?_
  rintro e w3 ⟨rfl, hb3⟩
  have HB3 := Lib.hid (ext_trans HB2.out hb3)
  have HX3 := Lib.hid (HX2.out.step hb3)
  clear p0 p1 p2 p3 p4 p5 p6 p7 p8 hb3
  have hva := tr_Valid t p w3 (HT.out.below HB3.out) HV.out.fb (HG.out.below HB3.out) (HM.out.below HB3.out) HV.out.sg
  rw [HE.out] at hva
  obtain ⟨p0, p1, p2, p3, p4, p5, p6, p7, p8⟩ := HX3.out.nine
  have HVA := Lib.hid hva
  clear hva HFW
  rcases Bool.eq_false_or_eq_true (validB t) with hv | hv
  rotate_left
  · rw [hv] at HVA
    clear hv
    go_wp2_with fail
    refine HVA.out.mono ?_
    rintro e w4 ⟨rfl, hb4⟩
    have HB4 := Lib.hid (ext_trans HB3.out hb4)
    clear hb4
    go_wp2_with fail
    go_ret
    exact ⟨rfl, HB4.out⟩
  have HVF := Lib.hid (validB_iff.1 hv)
  rw [hv] at HVA
  clear hv
  have hcc := fun W (hW : Below w.heap.size w W) => tr_Clone t p W (HT.out.below hW) HV.out.ft
  rw [HE.out] at hcc
  have HCC := Lib.hid hcc
  clear hcc
  go_wp2_with fail
  refine HVA.out.mono ?_
  rintro e w4 ⟨rfl, hb4⟩
  have HB4 := Lib.hid (ext_trans HB3.out hb4)
  have HX4 := Lib.hid (HX3.out.step hb4)
  clear hb4 p0 p1 p2 p3 p4 p5 p6 p7 p8 HVA
  obtain ⟨p0, p1, p2, p3, p4, p5, p6, p7, p8⟩ := HX4.out.nine
  go_wp2_with fail
  refine (HCC.out w4 HB4.out).mono ?_
  rintro e w5 ⟨q, rfl, hq, hb5⟩
  obtain ⟨x1, y1, x2, y2, x3, y3, x4, y4, e, g1, g2, g3, g4, -⟩ := hq.m0.open
  rw [e]
  have HGE := Lib.hid (And.intro g1 (And.intro g2 (And.intro g3 g4)))
  have HB5 := Lib.hid (ext_trans HB4.out hb5)
  have HX5 := Lib.hid (HX4.out.step hb5)
  have HQ5 := Lib.hid hq
  have hlen5 : q.M.length = t.G.length := hq.m0.len
  have hsz5 := hb5.size
  have hal := below_new w5 (boxT t x1 x2 x3 x4 y1 y2 y3 y4) 27
  have HB6 := Lib.hid (ext_trans HB5.out hal)
  have HL6 := Lib.hid (show Below w4.heap.size w4 (w5.alloc (.cells (boxT t x1 x2 x3 x4 y1 y2 y3 y4) 27)) from ext_trans hb5 hal)
  have HO6 := Lib.hid (hq.alloc (.cells (boxT t x1 x2 x3 x4 y1 y2 y3 y4) 27))
  have HT6 := Lib.hid (TBox.new w5 (boxT t x1 x2 x3 x4 y1 y2 y3 y4))
  have HY6 := Lib.hid (Bx.new w5 (boxT t x1 x2 x3 x4 y1 y2 y3 y4) 27)
  clear e hb5 hq p0 p1 p2 p3 p4 p5 p6 p7 p8 g1 g2 g3 g4 hal
  go_upto_region 6 with fail
  generalize w5.alloc (.cells (boxT t x1 x2 x3 x4 y1 y2 y3 y4) 27) = w6 at *
  have hog := HO6.out.g
  rw [HGE.out.2.2.1, hlen5] at hog
  have HOG := Lib.hid hog
  have hgl := HV.out.ft.2.2.1
  have hs6 := HL6.out.size
  clear hog
  obtain ⟨i0, hi, iz0, iz1, iz2⟩ := info_parts (P := Tryz.prog) sg_info
  have y6 := HY6.out.1.cell (j := 6) rfl
  go_wp2_with (at_builtin; refine wpList_append_own _ rfl _ _ 24 rfl w4.heap.size 45 i0 (.agg #[.int .i64 0, .int .i64 0, .slice none 0 0]) 3 40 Tryz.underlying24 hi iz0 iz1 iz2 rfl (by decide) _ _ _ rfl (World.ownsRow.alloc (by exact HOG.out) _) ⟨w6.heap.size, 0, none⟩ 1 1 [.int .i64 1, .int .i64 0, .slice none 0 0] rfl rfl (World.news_of_block (cs := #[.int .i64 1, .int .i64 0, .slice none 0 0]) (t := 45) (fr := (0, 0)) (by exact heap_alloc_new w6 _)) (by simp [Value.oneCell']) (by unfold maxLen; omega) (by omega) (by simp; omega) ?_)
  intro v7 w7 ho7 hg7 _
  obtain ⟨a7, c7, rfl, -, -⟩ := (SlR.of_own ho7).shape
  have hgv : q.vg.ownBlock = (Value.slice x3 t.G.length y3).ownBlock := by rw [HGE.out.2.2.1, hlen5]
  have hba : Below w6.heap.size w6 (w6.alloc (.cells #[.int .i64 1, .int .i64 0, .slice none 0 0] 45)) := (Below.refl _ _).alloc (Nat.le_refl _) _
  have hya := HY6.out.step hba
  have hta := HT6.out.alloc (.cells #[.int .i64 1, .int .i64 0, .slice none 0 0] 45)
  have hoa := HO6.out.alloc (.cells #[.int .i64 1, .int .i64 0, .slice none 0 0] 45)
  have hne : q.vg.ownBlock ≠ some w5.heap.size := hta.ne hoa.g (by decide)
  have hg7' := hg7
  rw [← hgv] at hg7'
  have hr7 := OwnRow.grown hya.1 hg7' hya.2 (Ne.symm hne)
  have ht7 := hta.grown hg7' hne
  have ho7' := TrO.addG (x := ((1, 0, []), .slice none 0 0)) hoa hg7' (by rw [hlen5]; exact ho7) (World.ownsRow_nil _ _ _ _)
  have ho8 := ho7'.box ht7 6 (.slice a7 (t.G.length + 1) c7)
  have hr8 : OwnRow (w7.setCell ⟨w5.heap.size, 6, none⟩ (.slice a7 (t.G.length + 1) c7)) w5.heap.size [.int .i64 t.sc, .string (bsB t.dt), .string (bsB t.vn), .string (bsB t.cm), .slice x1 t.S.length y1, .slice x2 t.V.length y2, .slice a7 (t.G.length + 1) c7, .slice x4 t.P.length y4, .int .i64 t.en] := hr7.set (j := 6) (by simp) (.slice a7 (t.G.length + 1) c7)
  have ht8 : TBox (w7.setCell ⟨w5.heap.size, 6, none⟩ (.slice a7 (t.G.length + 1) c7)) w5.heap.size := ht7.set _ _ _
  have hb7 : Below w4.heap.size w4 w7 := (HL6.out.alloc HL6.out.size _).grown hg7' (by simp; omega) (fun k hk => (own_lo hoa.g hk).1)
  have hb8 : Below w4.heap.size w4 (w7.setCell ⟨w5.heap.size, 6, none⟩ (.slice a7 (t.G.length + 1) c7)) := hb7.setCell hsz5 _
  have HO8 := Lib.hid ho8.m0
  have HR8 := Lib.hid hr8
  have HT8 := Lib.hid ht8
  have HL8 := Lib.hid hb8
  have HSZ5 := Lib.hid hsz5
  have y6f := hr7.free (j := 6) (by simp)
  have y6c := hr7.cell (j := 6) rfl
  clear hgv hba hya hta hoa hne hg7' hr7 ht7 ho7' ho8 hr8 ht8 hb7 hb8 hg7 ho7 y6 HOG
  go_upto_region 7 with fail
  generalize w7.setCell ⟨w5.heap.size, 6, none⟩ (.slice a7 (t.G.length + 1) c7) = w8 at *
  clear y6f y6c
  have hva := tr_Valid _ _ w8 HO8.out (fb_addG HV.out.fb 1) (HG.out.below (ext_trans HB4.out HL8.out)) (HM.out.below (ext_trans HB4.out HL8.out)) HV.out.sg
  have hqv : TP.v { q with vg := .slice a7 (t.G.length + 1) c7, M := q.M ++ [((1, 0, []), .slice none 0 0)] } { t with G := t.G ++ [(1, 0, [])] } = .agg #[.int .i64 t.sc, .string (bsB t.dt), .string (bsB t.vn), .string (bsB t.cm), .slice x1 t.S.length y1, .slice x2 t.V.length y2, .slice a7 (t.G.length + 1) c7, .slice x4 t.P.length y4, .int .i64 t.en] := by
    unfold TP.v
    dsimp only
    rw [HGE.out.1, HGE.out.2.1, HGE.out.2.2.2]
  rw [not_valid (spoil_signal HVF.out (1, 0, []))] at hva
  rw [hqv] at hva
  have HVA := Lib.hid hva
  clear hva
  have z0 := HR8.out.cell (j := 0) rfl
  have z1 := HR8.out.cell (j := 1) rfl
  have z2 := HR8.out.cell (j := 2) rfl
  have z3 := HR8.out.cell (j := 3) rfl
  have z4 := HR8.out.cell (j := 4) rfl
  have z5 := HR8.out.cell (j := 5) rfl
  have z6 := HR8.out.cell (j := 6) rfl
  have z7 := HR8.out.cell (j := 7) rfl
  have z8 := HR8.out.cell (j := 8) rfl
  go_wp2_with fail
  refine HVA.out.mono ?_
  rintro e w9 ⟨rfl, hb9⟩
  have hbz := HT8.out.lt
  have HL9 := Lib.hid (show Below w4.heap.size w4 w9 from ext_trans HL8.out hb9)
  have hbxa : BxA w9 w5.heap.size := ⟨_, _, _, _, _, _, _, _, _, HR8.out.below hb9 hbz, HT8.out.below hb9⟩
  have HBXA := Lib.hid hbxa
  have HX9 := Lib.hid (HX4.out.step HL9.out)
  have HZB := Lib.hid (show w4.heap.size ≤ w5.heap.size ∧ w5.heap.size < w9.heap.size from ⟨HSZ5.out, Nat.lt_of_lt_of_le hbz hb9.size⟩)
  clear hb9 hbxa HVA HR8 HT8 HO8 hbz z0 z1 z2 z3 z4 z5 z6 z7 z8
  obtain ⟨p0, p1, p2, p3, p4, p5, p6, p7, p8⟩ := HX9.out.nine
  have htm := tr_Times t p w9 (HT.out.below (ext_trans HB4.out HL9.out)) HV.out
  rw [HE.out] at htm
  have HTM := Lib.hid htm
  clear htm
  go_wp2_with fail
  refine HTM.out.mono ?_
  rintro e w10 ⟨v10, rfl, ho10, hb10⟩
  have ho10 : w10.ownsRow w9.heap.size 3 1 v10 (timesL t.G).length (ints (timesL t.G)) := ho10
  obtain ⟨a10, c10, rfl, hc10, hm10⟩ := (SlR.of_own ho10).shape
  unfold maxLen at hm10
  have HTO := Lib.hid ho10
  have HL10 := Lib.hid (show Below w4.heap.size w4 w10 from ext_trans HL9.out hb10)
  have HX10 := Lib.hid (HX9.out.step hb10)
  have HBX10 := Lib.hid (HBXA.out.below hb10)
  have HZB10 := Lib.hid (show w4.heap.size ≤ w5.heap.size ∧ w5.heap.size < w10.heap.size from ⟨HZB.out.1, Nat.lt_of_lt_of_le HZB.out.2 hb10.size⟩)
  have HTML := Lib.hid (fun (y : Int) => @timesL_mem t.G y)
  generalize timesL t.G = T at *
  clear ho10 hb10 HTM p0 p1 p2 p3 p4 p5 p6 p7 p8
  go_upto_if 32 with fail
  go_cut [] from 32 to 44 (fun wc => BxA wc w5.heap.size ∧ Below w4.heap.size w4 wc)
  case first =>
    by_cases hT0 : T = []
    · have hTl : T.length = 0 := by rw [hT0]; rfl
      have hTb : ¬ 0 < T.length := by omega
      have hTd : decide ((0 : Int) < (T.length : Int)) = false := by rw [decide_eq_false_iff_not]; omega
      clear hTl hT0
      go_wp2_with fail
      go_meet
      case rel => exact ⟨HBX10.out, HL10.out⟩
    · have hTl : 0 < T.length := List.length_pos_iff.2 hT0
      obtain ⟨m, hm⟩ : ∃ m, T.length = m + 1 := ⟨T.length - 1, by omega⟩
      have hmT : m < T.length := by omega
      obtain ⟨sg, hsg, cc, hcc, hce⟩ := (HTML.out T[m]).1 (List.getElem_mem hmT)
      have HSPE := Lib.hid (not_valid (spoil_end hsg hcc))
      have hwc := sv_mem ((validF_of HVF.out).s sg hsg) cc hcc
      rw [hce] at HSPE hwc
      obtain ⟨hw0, hw1, -⟩ := hwc
      have hm1 : IntKind.i64.wrap ((T.length : Int) - 1) = (m : Int) := by rw [hm, show (((m + 1 : Nat) : Int) - 1) = (m : Int) by omega]; exact IntWalk.i64_in _ (by omega)
      have hm2 : (m : Int) < (T.length : Int) := by omega
      have hm3 : (0 : Int) ≤ (m : Int) := by omega
      generalize hTm : T[m] = tm at *
      have HTM := Lib.hid hTm
      have HM1 := Lib.hid hm
      obtain ⟨p0, p1, p2, p3, p4, p5, p6, p7, p8⟩ := HX10.out.nine
      clear hT0 hm hsg hcc hce hTm
      go_wp2_with fail
      refine (HCC.out w10 (ext_trans HB4.out HL10.out)).mono ?_
      rintro e w11 ⟨q2, rfl, hq2, hb11⟩
      obtain ⟨e1, f1, e2, f2, e3, f3, e4, f4, e, g1, g2, g3, g4, -⟩ := hq2.m0.open
      rw [e]
      have HGE2 := Lib.hid (And.intro g1 (And.intro g2 (And.intro g3 g4)))
      have hq2l := Lib.hid hq2.m0.len
      have HBX11 := HBX10.out.below hb11
      have hbl : w5.heap.size < w10.heap.size := HZB10.out.2
      obtain ⟨v0, v1, v2, v3, v4, v5, v6, v7, v8, hvr, hvt⟩ := HBX11
      have c0 := hvr.cell (j := 0) rfl
      have c1 := hvr.cell (j := 1) rfl
      have c2 := hvr.cell (j := 2) rfl
      have c3 := hvr.cell (j := 3) rfl
      have c4 := hvr.cell (j := 4) rfl
      have c5 := hvr.cell (j := 5) rfl
      have c6 := hvr.cell (j := 6) rfl
      have c7 := hvr.cell (j := 7) rfl
      have c8 := hvr.cell (j := 8) rfl
      have k0 := hvr.free (j := 0) (by simp)
      have k1 := hvr.free (j := 1) (by simp)
      have k2 := hvr.free (j := 2) (by simp)
      have k3 := hvr.free (j := 3) (by simp)
      have k4 := hvr.free (j := 4) (by simp)
      have k5 := hvr.free (j := 5) (by simp)
      have k6 := hvr.free (j := 6) (by simp)
      have k7 := hvr.free (j := 7) (by simp)
      have k8 := hvr.free (j := 8) (by simp)
      have hr12 : OwnRow (((((((((w11.setCell ⟨w5.heap.size, 0, none⟩ (.int .i64 t.sc)).setCell ⟨w5.heap.size, 1, none⟩ (.string (bsB t.dt))).setCell ⟨w5.heap.size, 2, none⟩ (.string (bsB t.vn))).setCell ⟨w5.heap.size, 3, none⟩ (.string (bsB t.cm))).setCell ⟨w5.heap.size, 4, none⟩ (.slice e1 t.S.length f1)).setCell ⟨w5.heap.size, 5, none⟩ (.slice e2 t.V.length f2)).setCell ⟨w5.heap.size, 6, none⟩ (.slice e3 t.G.length f3)).setCell ⟨w5.heap.size, 7, none⟩ (.slice e4 t.P.length f4)).setCell ⟨w5.heap.size, 8, none⟩ (.int .i64 t.en)) w5.heap.size [.int .i64 t.sc, .string (bsB t.dt), .string (bsB t.vn), .string (bsB t.cm), .slice e1 t.S.length f1, .slice e2 t.V.length f2, .slice e3 t.G.length f3, .slice e4 t.P.length f4, .int .i64 t.en] := set9_row hvr _ _ _ _ _ _ _ _ _
      have ho12 : TrO w10.heap.size (((((((((w11.setCell ⟨w5.heap.size, 0, none⟩ (.int .i64 t.sc)).setCell ⟨w5.heap.size, 1, none⟩ (.string (bsB t.dt))).setCell ⟨w5.heap.size, 2, none⟩ (.string (bsB t.vn))).setCell ⟨w5.heap.size, 3, none⟩ (.string (bsB t.cm))).setCell ⟨w5.heap.size, 4, none⟩ (.slice e1 t.S.length f1)).setCell ⟨w5.heap.size, 5, none⟩ (.slice e2 t.V.length f2)).setCell ⟨w5.heap.size, 6, none⟩ (.slice e3 t.G.length f3)).setCell ⟨w5.heap.size, 7, none⟩ (.slice e4 t.P.length f4)).setCell ⟨w5.heap.size, 8, none⟩ (.int .i64 t.en)) t q2 := hq2.nine hbl _ _ _ _ _ _ _ _ _
      have ht12 : TBox (((((((((w11.setCell ⟨w5.heap.size, 0, none⟩ (.int .i64 t.sc)).setCell ⟨w5.heap.size, 1, none⟩ (.string (bsB t.dt))).setCell ⟨w5.heap.size, 2, none⟩ (.string (bsB t.vn))).setCell ⟨w5.heap.size, 3, none⟩ (.string (bsB t.cm))).setCell ⟨w5.heap.size, 4, none⟩ (.slice e1 t.S.length f1)).setCell ⟨w5.heap.size, 5, none⟩ (.slice e2 t.V.length f2)).setCell ⟨w5.heap.size, 6, none⟩ (.slice e3 t.G.length f3)).setCell ⟨w5.heap.size, 7, none⟩ (.slice e4 t.P.length f4)).setCell ⟨w5.heap.size, 8, none⟩ (.int .i64 t.en)) w5.heap.size := hvt.nine _ _ _ _ _ _ _ _ _
      have hl12 : Below w4.heap.size w4 (((((((((w11.setCell ⟨w5.heap.size, 0, none⟩ (.int .i64 t.sc)).setCell ⟨w5.heap.size, 1, none⟩ (.string (bsB t.dt))).setCell ⟨w5.heap.size, 2, none⟩ (.string (bsB t.vn))).setCell ⟨w5.heap.size, 3, none⟩ (.string (bsB t.cm))).setCell ⟨w5.heap.size, 4, none⟩ (.slice e1 t.S.length f1)).setCell ⟨w5.heap.size, 5, none⟩ (.slice e2 t.V.length f2)).setCell ⟨w5.heap.size, 6, none⟩ (.slice e3 t.G.length f3)).setCell ⟨w5.heap.size, 7, none⟩ (.slice e4 t.P.length f4)).setCell ⟨w5.heap.size, 8, none⟩ (.int .i64 t.en)) := set9_below (ext_trans HL10.out hb11) HZB10.out.1 _ _ _ _ _ _ _ _ _
      have hto12 : (((((((((w11.setCell ⟨w5.heap.size, 0, none⟩ (.int .i64 t.sc)).setCell ⟨w5.heap.size, 1, none⟩ (.string (bsB t.dt))).setCell ⟨w5.heap.size, 2, none⟩ (.string (bsB t.vn))).setCell ⟨w5.heap.size, 3, none⟩ (.string (bsB t.cm))).setCell ⟨w5.heap.size, 4, none⟩ (.slice e1 t.S.length f1)).setCell ⟨w5.heap.size, 5, none⟩ (.slice e2 t.V.length f2)).setCell ⟨w5.heap.size, 6, none⟩ (.slice e3 t.G.length f3)).setCell ⟨w5.heap.size, 7, none⟩ (.slice e4 t.P.length f4)).setCell ⟨w5.heap.size, 8, none⟩ (.int .i64 t.en)).ownsRow w9.heap.size 3 1 (.slice a10 T.length c10) T.length (ints T) := set9_own (below_own HTO.out hb11) HZB.out.2 _ _ _ _ _ _ _ _ _
      go_upto_region 13 with fail
      generalize ((((((((w11.setCell ⟨w5.heap.size, 0, none⟩ (.int .i64 t.sc)).setCell ⟨w5.heap.size, 1, none⟩ (.string (bsB t.dt))).setCell ⟨w5.heap.size, 2, none⟩ (.string (bsB t.vn))).setCell ⟨w5.heap.size, 3, none⟩ (.string (bsB t.cm))).setCell ⟨w5.heap.size, 4, none⟩ (.slice e1 t.S.length f1)).setCell ⟨w5.heap.size, 5, none⟩ (.slice e2 t.V.length f2)).setCell ⟨w5.heap.size, 6, none⟩ (.slice e3 t.G.length f3)).setCell ⟨w5.heap.size, 7, none⟩ (.slice e4 t.P.length f4)).setCell ⟨w5.heap.size, 8, none⟩ (.int .i64 t.en) = w12 at *
      clear c0 c1 c2 c3 c4 c5 c6 c7 c8 k0 k1 k2 k3 k4 k5 k6 k7 k8 hvr hvt hb11 hq2 e g1 g2 g3 g4
      obtain ⟨bt, ot, ct, hv, -, -, hcell⟩ := (SlR.of_own hto12).at hTl
      injection hv with h1 h2 h3
      clear h2 h3
      have d0 := hcell m (.int .i64 tm) (by rw [← HTM.out]; simp [ints, hmT])
      have hw2 : IntKind.i64.wrap (tm - 1) = tm - 1 := IntWalk.i64_in _ (by omega)
      have k7 := hr12.free (j := 7) (by simp)
      have k8 := hr12.free (j := 8) (by simp)
      have c7 := hr12.cell (j := 7) rfl
      have c8 := hr12.cell (j := 8) rfl
      have hne : bt ≠ w5.heap.size := fun h => by
        have := (own_lo hto12 (g := bt) (by rw [h1]; rfl)).1
        have := HZB.out.2
        omega
      have hr13 : OwnRow ((w12.setCell ⟨w5.heap.size, 7, none⟩ (.slice none 0 0)).setCell ⟨w5.heap.size, 8, none⟩ (.int .i64 (tm - 1))) w5.heap.size [.int .i64 t.sc, .string (bsB t.dt), .string (bsB t.vn), .string (bsB t.cm), .slice e1 t.S.length f1, .slice e2 t.V.length f2, .slice e3 t.G.length f3, .slice none 0 0, .int .i64 (tm - 1)] := (hr12.set (j := 7) (by simp) (.slice none 0 0)).set (j := 8) (by simp) (.int .i64 (tm - 1))
      have HR13 := Lib.hid hr13
      have HO13 := Lib.hid (((ho12.boxlt hbl 7 (.slice none 0 0)).boxlt hbl 8 (.int .i64 (tm - 1))).noP (tm - 1)).m0
      have HT13 := Lib.hid ((ht12.set w5.heap.size 7 (.slice none 0 0)).set w5.heap.size 8 (.int .i64 (tm - 1)))
      have HL13 := Lib.hid (show Below w4.heap.size w4 ((w12.setCell ⟨w5.heap.size, 7, none⟩ (.slice none 0 0)).setCell ⟨w5.heap.size, 8, none⟩ (.int .i64 (tm - 1))) from (hl12.setCell HZB10.out.1 _).setCell HZB10.out.1 _)
      clear hr12 ho12 ht12 hl12 hto12 hcell hr13
      subst h1
      go_region
      go_upto_region 14 with fail
      generalize (w12.setCell ⟨w5.heap.size, 7, none⟩ (.slice none 0 0)).setCell ⟨w5.heap.size, 8, none⟩ (.int .i64 (tm - 1)) = w13 at *
      have HDR := Lib.hid (show Below w13.heap.size w13 w13.drew from (Below.refl _ _).drew)
      have hva := tr_Valid _ _ w13.drew (HO13.out.below HDR.out) (fb_noP HV.out.fb (tm - 1)) (HG.out.below (ext_trans HB4.out (ext_trans HL13.out HDR.out))) (HM.out.below (ext_trans HB4.out (ext_trans HL13.out HDR.out))) HV.out.sg
      have hqv : TP.v { q2 with vp := .slice none 0 0 } { t with P := [], en := tm - 1 } = .agg #[.int .i64 t.sc, .string (bsB t.dt), .string (bsB t.vn), .string (bsB t.cm), .slice e1 t.S.length f1, .slice e2 t.V.length f2, .slice e3 t.G.length f3, .slice none 0 0, .int .i64 (tm - 1)] := by
        unfold TP.v
        dsimp only
        rw [HGE2.out.1, HGE2.out.2.1, HGE2.out.2.2.1, hq2l.out]
      rw [HSPE.out] at hva
      rw [hqv] at hva
      have HVA := Lib.hid hva
      clear hva hqv d0 k7 k8 c7 c8
      have z0 := (HR13).out.cell (j := 0) rfl
      have z1 := (HR13).out.cell (j := 1) rfl
      have z2 := (HR13).out.cell (j := 2) rfl
      have z3 := (HR13).out.cell (j := 3) rfl
      have z4 := (HR13).out.cell (j := 4) rfl
      have z5 := (HR13).out.cell (j := 5) rfl
      have z6 := (HR13).out.cell (j := 6) rfl
      have z7 := (HR13).out.cell (j := 7) rfl
      have z8 := (HR13).out.cell (j := 8) rfl
      go_wp2_with fail
      refine HVA.out.mono ?_
      rintro e w14 ⟨rfl, hb14⟩
      have hb14 := ext_trans HDR.out hb14
      have HL14 := Lib.hid (show Below w4.heap.size w4 w14 from ext_trans HL13.out hb14)
      have HBX14 := Lib.hid (show BxA w14 w5.heap.size from ⟨_, _, _, _, _, _, _, _, _, HR13.out.below hb14 HT13.out.lt, HT13.out.below hb14⟩)
      clear hb14
      go_wp2_with fail
      go_meet
      case rel => exact ⟨HBX14.out, HL14.out⟩
  case rest =>
    obtain ⟨wx, rfl⟩ : ∃ wx, wx = wc := ⟨_, rfl⟩
    obtain ⟨hbx, hlx⟩ := hcut
    have HBXX := Lib.hid hbx
    have HLX := Lib.hid hlx
    have HXX := Lib.hid (HX4.out.step hlx)
    have HZX := Lib.hid (show w5.heap.size < wx.heap.size from by
      obtain ⟨_, _, _, _, _, _, _, _, _, _, h⟩ := hbx
      exact h.lt)
    clear hbx hlx HBX10 HZB10 HX10 HTML HTO
    have hpe := HE.out
    unfold TP.v at hpe
    injection hpe with hpe
    simp at hpe
    obtain ⟨-, -, hp3, hp4⟩ := hpe
    have HP3 := Lib.hid hp3
    have HP4 := Lib.hid hp4
    have htq := (HT.out.below (ext_trans HB4.out HLX.out)).q
    rw [hp4] at htq
    have HTQ := Lib.hid htq
    have hpl := HV.out.ft.2.2.2.1
    clear hp3 hp4 htq
    obtain ⟨p0, p1, p2, p3, p4, p5, p6, p7, p8⟩ := HXX.out.nine
    go_upto_region 17 with fail
    go_cut [61] from 48 to 61 (fun u wc => u = .bool (gapB t.P t.en) ∧ BxA wc w5.heap.size ∧ Below wx.heap.size wx wc)
    case first =>
      by_cases hP0 : t.P = []
      · have hTb : ¬ 0 < t.P.length := by rw [hP0]; simp
        have hTd : decide ((0 : Int) < (t.P.length : Int)) = false := by rw [decide_eq_false_iff_not]; omega
        have HGB := Lib.hid (gapB_nil (en := t.en) hP0)
        clear hP0
        go_quiet (fail)
        go_wp2_with fail
        go_meet
        case rel => exact ⟨by rw [HGB.out], HBXX.out.below (below_drewN (Below.refl _ _) _), below_drewN (Below.refl _ _) _⟩
      · have hTb : 0 < t.P.length := List.length_pos_iff.2 hP0
        have hTd : decide ((0 : Int) < (t.P.length : Int)) = true := by rw [decide_eq_true_iff]; omega
        obtain ⟨m, hm⟩ : ∃ m, t.P.length = m + 1 := ⟨t.P.length - 1, by omega⟩
        have hmT : m < t.P.length := by omega
        have HGB := Lib.hid (gapB_at (en := t.en) hm hmT)
        have hm1 : IntKind.i64.wrap ((t.P.length : Int) - 1) = (m : Int) := by rw [hm, show (((m + 1 : Nat) : Int) - 1) = (m : Int) by omega]; exact IntWalk.i64_in _ (by omega)
        have hm2 : (m : Int) < (t.P.length : Int) := by omega
        have hm3 : (0 : Int) ≤ (m : Int) := by omega
        obtain ⟨b, o, ha4, hcell⟩ := HTQ.out.gps hmT
        generalize t.P[m] = g at hcell HGB
        obtain ⟨ga, gb⟩ := g
        have d1 : wx.cell? ⟨b, o + m * 2 + 1, none⟩ = some (.int .i64 gb) := hcell 1 _ rfl
        dsimp only at HGB
        have HM1 := Lib.hid hm
        clear hP0 hm hcell
        subst ha4
        by_cases hge : gb ≤ t.en
        · have hgd : decide (gb ≤ t.en) = true := decide_eq_true hge
          go_quiet (fail)
          go_wp2_with fail
          go_meet
          case rel => exact ⟨by rw [HGB.out, hgd], HBXX.out.below (below_drewN (Below.refl _ _) _), below_drewN (Below.refl _ _) _⟩
        · have hgd : decide (gb ≤ t.en) = false := decide_eq_false hge
          go_quiet (fail)
          go_wp2_with fail
          go_meet
          case rel => exact ⟨by rw [HGB.out, hgd], HBXX.out.below (below_drewN (Below.refl _ _) _), below_drewN (Below.refl _ _) _⟩
    case rest =>
      obtain ⟨wy, rfl⟩ : ∃ wy, wy = wc := ⟨_, rfl⟩
      obtain ⟨rfl, hby, hxy⟩ := hcut
      have HBXY := Lib.hid hby
      have HLY := Lib.hid (show Below w4.heap.size w4 wy from ext_trans HLX.out hxy)
      have HZY := Lib.hid (show w5.heap.size < wy.heap.size from Nat.lt_of_lt_of_le HZX.out hxy.size)
      have HXY := Lib.hid (HXX.out.step hxy)
      clear hby hxy p0 p1 p2 p3 p4 p5 p6 p7 p8
      obtain ⟨p0, p1, p2, p3, p4, p5, p6, p7, p8⟩ := HXY.out.nine
      go_upto_if 61 with fail
      go_cut [] from 61 to 86 (fun wc => BxA wc w5.heap.size ∧ Below w4.heap.size w4 wc)
      case first =>
        obtain ⟨gB, hgB⟩ : ∃ gB, gB = gapB t.P t.en := ⟨_, rfl⟩
        rw [← hgB]
        cases gB
        · clear hgB
          go_wp2_with fail
          go_meet
          case rel => exact ⟨HBXY.out, HLY.out⟩
        · have hP0 : t.P ≠ [] := fun h => by rw [gapB_nil h] at hgB; cases hgB
          have hTb : 0 < t.P.length := List.length_pos_iff.2 hP0
          obtain ⟨m, hm⟩ : ∃ m, t.P.length = m + 1 := ⟨t.P.length - 1, by omega⟩
          have hmT : m < t.P.length := by omega
          have hge : t.P[m].2 ≤ t.en := by
            have h := hgB
            rw [gapB_at hm hmT] at h
            exact of_decide_eq_true h.symm
          have hm1 : IntKind.i64.wrap ((t.P.length : Int) - 1) = (m : Int) := by rw [hm, show (((m + 1 : Nat) : Int) - 1) = (m : Int) by omega]; exact IntWalk.i64_in _ (by omega)
          have hm2 : (m : Int) < (t.P.length : Int) := by omega
          have hm3 : (0 : Int) ≤ (m : Int) := by omega
          have hPe : t.P = t.P.take m ++ [t.P[m]] := by rw [← List.take_succ_eq_append_getElem hmT, ← hm, List.take_length]
          have hp16 : t.P.length ≤ 16 := valid_p HVF.out
          have hst := not_valid (spoil_gap hPe (t.P[m].2 + 1))
          have hgv := (validF_of HVF.out).t.ok.mem _ (List.getElem_mem hmT)
          have hen := (validF_of HVF.out).t.hi
          obtain ⟨b, o, ha4, hcell⟩ := (HTQ.out.below (show Below wx.heap.size wx wx from Below.refl _ _)).gps hmT
          generalize hg0 : t.P[m] = g at hcell hst hge hgv
          obtain ⟨ga, gb⟩ := g
          have d1 : wx.cell? ⟨b, o + m * 2 + 1, none⟩ = some (.int .i64 gb) := hcell 1 _ rfl
          have HBW := Lib.hid (cell_lt d1)
          have D1 := Lib.hid d1
          have HM1 := Lib.hid hm
          have HST := Lib.hid hst
          have hgw : IntKind.i64.wrap (gb + 1) = gb + 1 := IntWalk.i64_in _ (by dsimp only at hge hgv; omega)
          have HG0 := Lib.hid hg0
          clear hP0 hm hcell hPe hst hgB hge hgv hen hg0 d1 D1 HBW
          subst ha4
          have HFF := Lib.hid (And.intro hm1 (And.intro hm2 (And.intro hm3 (And.intro hgw (And.intro hp16 hTb)))))
          clear hm1 hm2 hm3 hgw hp16 hTb
          go_wp2_with fail
          refine (HCC.out wy (ext_trans HB4.out HLY.out)).mono ?_
          rintro e w11 ⟨q3, rfl, hq2, hb11⟩
          obtain ⟨e1, f1, e2, f2, e3, f3, e4, f4, e, g1, g2, g3, g4, -⟩ := hq2.m0.open
          rw [e]
          have HGE2 := Lib.hid (And.intro g1 (And.intro g2 (And.intro g3 g4)))
          have hq2l := Lib.hid hq2.m0.len
          have HBX11 := HBXY.out.below hb11
          have hbl : w5.heap.size < wy.heap.size := HZY.out
          obtain ⟨v0, v1, v2, v3, v4, v5, v6, v7, v8, hvr, hvt⟩ := HBX11
          have c0 := hvr.cell (j := 0) rfl
          have c1 := hvr.cell (j := 1) rfl
          have c2 := hvr.cell (j := 2) rfl
          have c3 := hvr.cell (j := 3) rfl
          have c4 := hvr.cell (j := 4) rfl
          have c5 := hvr.cell (j := 5) rfl
          have c6 := hvr.cell (j := 6) rfl
          have c7 := hvr.cell (j := 7) rfl
          have c8 := hvr.cell (j := 8) rfl
          have k0 := hvr.free (j := 0) (by simp)
          have k1 := hvr.free (j := 1) (by simp)
          have k2 := hvr.free (j := 2) (by simp)
          have k3 := hvr.free (j := 3) (by simp)
          have k4 := hvr.free (j := 4) (by simp)
          have k5 := hvr.free (j := 5) (by simp)
          have k6 := hvr.free (j := 6) (by simp)
          have k7 := hvr.free (j := 7) (by simp)
          have k8 := hvr.free (j := 8) (by simp)
          have hr12 : OwnRow (((((((((w11.setCell ⟨w5.heap.size, 0, none⟩ (.int .i64 t.sc)).setCell ⟨w5.heap.size, 1, none⟩ (.string (bsB t.dt))).setCell ⟨w5.heap.size, 2, none⟩ (.string (bsB t.vn))).setCell ⟨w5.heap.size, 3, none⟩ (.string (bsB t.cm))).setCell ⟨w5.heap.size, 4, none⟩ (.slice e1 t.S.length f1)).setCell ⟨w5.heap.size, 5, none⟩ (.slice e2 t.V.length f2)).setCell ⟨w5.heap.size, 6, none⟩ (.slice e3 t.G.length f3)).setCell ⟨w5.heap.size, 7, none⟩ (.slice e4 t.P.length f4)).setCell ⟨w5.heap.size, 8, none⟩ (.int .i64 t.en)) w5.heap.size [.int .i64 t.sc, .string (bsB t.dt), .string (bsB t.vn), .string (bsB t.cm), .slice e1 t.S.length f1, .slice e2 t.V.length f2, .slice e3 t.G.length f3, .slice e4 t.P.length f4, .int .i64 t.en] := set9_row hvr _ _ _ _ _ _ _ _ _
          have ho12 : TrO wy.heap.size (((((((((w11.setCell ⟨w5.heap.size, 0, none⟩ (.int .i64 t.sc)).setCell ⟨w5.heap.size, 1, none⟩ (.string (bsB t.dt))).setCell ⟨w5.heap.size, 2, none⟩ (.string (bsB t.vn))).setCell ⟨w5.heap.size, 3, none⟩ (.string (bsB t.cm))).setCell ⟨w5.heap.size, 4, none⟩ (.slice e1 t.S.length f1)).setCell ⟨w5.heap.size, 5, none⟩ (.slice e2 t.V.length f2)).setCell ⟨w5.heap.size, 6, none⟩ (.slice e3 t.G.length f3)).setCell ⟨w5.heap.size, 7, none⟩ (.slice e4 t.P.length f4)).setCell ⟨w5.heap.size, 8, none⟩ (.int .i64 t.en)) t q3 := hq2.nine hbl _ _ _ _ _ _ _ _ _
          have ht12 : TBox (((((((((w11.setCell ⟨w5.heap.size, 0, none⟩ (.int .i64 t.sc)).setCell ⟨w5.heap.size, 1, none⟩ (.string (bsB t.dt))).setCell ⟨w5.heap.size, 2, none⟩ (.string (bsB t.vn))).setCell ⟨w5.heap.size, 3, none⟩ (.string (bsB t.cm))).setCell ⟨w5.heap.size, 4, none⟩ (.slice e1 t.S.length f1)).setCell ⟨w5.heap.size, 5, none⟩ (.slice e2 t.V.length f2)).setCell ⟨w5.heap.size, 6, none⟩ (.slice e3 t.G.length f3)).setCell ⟨w5.heap.size, 7, none⟩ (.slice e4 t.P.length f4)).setCell ⟨w5.heap.size, 8, none⟩ (.int .i64 t.en)) w5.heap.size := hvt.nine _ _ _ _ _ _ _ _ _
          have hl12 : Below w4.heap.size w4 (((((((((w11.setCell ⟨w5.heap.size, 0, none⟩ (.int .i64 t.sc)).setCell ⟨w5.heap.size, 1, none⟩ (.string (bsB t.dt))).setCell ⟨w5.heap.size, 2, none⟩ (.string (bsB t.vn))).setCell ⟨w5.heap.size, 3, none⟩ (.string (bsB t.cm))).setCell ⟨w5.heap.size, 4, none⟩ (.slice e1 t.S.length f1)).setCell ⟨w5.heap.size, 5, none⟩ (.slice e2 t.V.length f2)).setCell ⟨w5.heap.size, 6, none⟩ (.slice e3 t.G.length f3)).setCell ⟨w5.heap.size, 7, none⟩ (.slice e4 t.P.length f4)).setCell ⟨w5.heap.size, 8, none⟩ (.int .i64 t.en)) := set9_below (ext_trans HLY.out hb11) HSZ5.out _ _ _ _ _ _ _ _ _
          go_upto_region 19 with fail
          generalize ((((((((w11.setCell ⟨w5.heap.size, 0, none⟩ (.int .i64 t.sc)).setCell ⟨w5.heap.size, 1, none⟩ (.string (bsB t.dt))).setCell ⟨w5.heap.size, 2, none⟩ (.string (bsB t.vn))).setCell ⟨w5.heap.size, 3, none⟩ (.string (bsB t.cm))).setCell ⟨w5.heap.size, 4, none⟩ (.slice e1 t.S.length f1)).setCell ⟨w5.heap.size, 5, none⟩ (.slice e2 t.V.length f2)).setCell ⟨w5.heap.size, 6, none⟩ (.slice e3 t.G.length f3)).setCell ⟨w5.heap.size, 7, none⟩ (.slice e4 t.P.length f4)).setCell ⟨w5.heap.size, 8, none⟩ (.int .i64 t.en) = w12 at *
          have HR12 := Lib.hid hr12
          have HO12 := Lib.hid ho12
          have HT12 := Lib.hid ht12
          have HL12 := Lib.hid hl12
          clear hr12 ho12 ht12 hl12
          clear c0 c1 c2 c3 c4 c5 c6 c7 c8 k0 k1 k2 k3 k4 k5 k6 k7 k8 hvr hvt hb11 hq2 e g1 g2 g3 g4
          obtain ⟨hm1, hm2, hm3, hgw, hp16, hTb⟩ := HFF.out
          clear HFF p0 p1 p2 p3 p4 p5 p6 p7 p8
          have HX12 := Lib.hid (HX4.out.step HL12.out)
          have hog := HO12.out.q
          rw [HGE2.out.2.2.2] at hog
          have hwy : wy.heap.size < w12.heap.size := by
            have h := hog
            rcases h.2 with ⟨h1, h2⟩ | ⟨g', cap', cur, h1, h2, h3, -⟩
            · exact absurd h2 (by omega)
            · exact Nat.lt_of_le_of_lt h2 (Array.getElem?_eq_some_iff.1 h3).1
          have htq := (HT.out.below (ext_trans HB4.out HL12.out)).q
          rw [HP4.out] at htq
          obtain ⟨b', o', hbo, hcell⟩ := htq.gps hmT
          injection hbo with hbo
          injection hbo with hb1 hb2 _
          subst hb1 hb2
          rw [HG0.out] at hcell
          have d1 : w12.cell? ⟨b, o + m * 2 + 1, none⟩ = some (.int .i64 gb) := hcell 1 _ rfl
          have c7 := HR12.out.cell (j := 7) rfl
          have t7 := HX12.out.1.cell (j := 7) rfl
          have hbl1 : b < w12.heap.size := cell_lt d1
          have SF := Lib.hid (fun W (hW : Below w12.heap.size w12 W) => And.intro ((hW.cell (p := ⟨w5.heap.size, 7, none⟩) (cell_lt c7)).trans c7) (And.intro ((hW.cell (p := ⟨w.heap.size, 7, none⟩) (cell_lt t7)).trans t7) ((hW.cell (p := ⟨b, o + m * 2 + 1, none⟩) (cell_lt d1)).trans d1)))
          have HOG := Lib.hid hog
          obtain ⟨i1, hi1, jz0, jz1, jz2⟩ := info_parts (P := Tryz.prog) gp_info
          clear hog htq hcell hbl1
          refine wp_region_late (S := fun w' => w'.cell? ⟨w5.heap.size, 7, none⟩ = some (.slice e4 t.P.length f4) ∧ w'.cell? ⟨w.heap.size, 7, none⟩ = some (.slice (some ⟨b, o, none⟩) t.P.length k4) ∧ w'.cell? ⟨b, o + m * 2 + 1, none⟩ = some (.int .i64 gb)) (X := fun j => decide (20 ≤ j)) (by kernel_rfl) ?_
          have HS := Lib.hid (SF.out w12.drew (Below.refl _ _).drew)
          refine wpAnyX_take (i := 0) (v := ?_) rfl (by kernel_rfl) (by kernel_rfl) (by kernel_rfl) (by kernel_rfl) (fun _ _ _ h => h) (Or.inl ⟨by rfl, ?_⟩) HS.out ?_
          rotate_left
          · intro w hSw
            (try dsimp only at hSw)
            go_simp
            all_goals with_reducible rfl
          simp only [Act.put, List.getElem_toArray, List.getElem_cons_succ, List.getElem_cons_zero, List.setIfInBounds_toArray, List.set_cons_zero, List.set_cons_succ]
          refine wpAnyX_take (i := 1) (v := ?_) rfl (by kernel_rfl) (by kernel_rfl) (by kernel_rfl) (by kernel_rfl) (fun _ _ _ h => h) (Or.inl ⟨by rfl, ?_⟩) HS.out ?_
          rotate_left
          · intro w hSw
            (try dsimp only at hSw)
            go_simp
            all_goals with_reducible rfl
          simp only [Act.put, List.getElem_toArray, List.getElem_cons_succ, List.getElem_cons_zero, List.setIfInBounds_toArray, List.set_cons_zero, List.set_cons_succ]
          refine wpAnyX_take (i := 2) (v := ?_) rfl (by kernel_rfl) (by kernel_rfl) (by kernel_rfl) (by kernel_rfl) (fun _ _ _ h => h) (Or.inl ⟨by rfl, ?_⟩) HS.out ?_
          rotate_left
          · intro w hSw
            (try dsimp only at hSw)
            go_simp
            all_goals with_reducible rfl
          simp only [Act.put, List.getElem_toArray, List.getElem_cons_succ, List.getElem_cons_zero, List.setIfInBounds_toArray, List.set_cons_zero, List.set_cons_succ]
          refine wpAnyX_take (i := 3) (v := ?_) rfl (by kernel_rfl) (by kernel_rfl) (by kernel_rfl) (by kernel_rfl) (fun _ _ _ h => h) (Or.inl ⟨by rfl, ?_⟩) HS.out ?_
          rotate_left
          · intro w hSw
            (try dsimp only at hSw)
            go_simp
            all_goals with_reducible rfl
          simp only [Act.put, List.getElem_toArray, List.getElem_cons_succ, List.getElem_cons_zero, List.setIfInBounds_toArray, List.set_cons_zero, List.set_cons_succ]
          refine wpAnyX_take (i := 4) (v := ?_) rfl (by kernel_rfl) (by kernel_rfl) (by kernel_rfl) (by kernel_rfl) (fun _ _ _ h => h) (Or.inl ⟨by rfl, ?_⟩) HS.out ?_
          rotate_left
          · intro w hSw
            (try dsimp only at hSw)
            go_simp
            all_goals with_reducible rfl
          simp only [Act.put, List.getElem_toArray, List.getElem_cons_succ, List.getElem_cons_zero, List.setIfInBounds_toArray, List.set_cons_zero, List.set_cons_succ]
          refine wpAnyX_take (i := 5) (v := ?_) rfl (by kernel_rfl) (by kernel_rfl) (by kernel_rfl) (by kernel_rfl) (fun _ _ _ h => h) (Or.inl ⟨by rfl, ?_⟩) HS.out ?_
          rotate_left
          · intro w hSw
            (try dsimp only at hSw)
            go_simp
            all_goals with_reducible rfl
          simp only [Act.put, List.getElem_toArray, List.getElem_cons_succ, List.getElem_cons_zero, List.setIfInBounds_toArray, List.set_cons_zero, List.set_cons_succ]
          refine wpAnyX_take (i := 6) (v := ?_) rfl (by kernel_rfl) (by kernel_rfl) (by kernel_rfl) (by kernel_rfl) (fun _ _ _ h => h) (Or.inl ⟨by rfl, ?_⟩) HS.out ?_
          rotate_left
          · intro w hSw
            (try dsimp only at hSw)
            go_simp
            all_goals with_reducible rfl
          simp only [Act.put, List.getElem_toArray, List.getElem_cons_succ, List.getElem_cons_zero, List.setIfInBounds_toArray, List.set_cons_zero, List.set_cons_succ]
          refine wpAnyX_take (i := 7) (v := ?_) rfl (by kernel_rfl) (by kernel_rfl) (by kernel_rfl) (by kernel_rfl) (fun _ _ _ h => h) (Or.inl ⟨by rfl, ?_⟩) HS.out ?_
          rotate_left
          · intro w hSw
            (try dsimp only at hSw)
            go_simp
            all_goals with_reducible rfl
          simp only [Act.put, List.getElem_toArray, List.getElem_cons_succ, List.getElem_cons_zero, List.setIfInBounds_toArray, List.set_cons_zero, List.set_cons_succ]
          refine wpAnyX_take (i := 8) (v := ?_) rfl (by kernel_rfl) (by kernel_rfl) (by kernel_rfl) (by kernel_rfl) (fun _ _ _ h => h) (Or.inl ⟨by rfl, ?_⟩) HS.out ?_
          rotate_left
          · intro w hSw
            (try dsimp only at hSw)
            go_simp
            all_goals with_reducible rfl
          simp only [Act.put, List.getElem_toArray, List.getElem_cons_succ, List.getElem_cons_zero, List.setIfInBounds_toArray, List.set_cons_zero, List.set_cons_succ]
          refine wpAnyX_take (i := 9) (v := ?_) rfl (by kernel_rfl) (by kernel_rfl) (by kernel_rfl) (by kernel_rfl) (fun _ _ _ h => h) (Or.inl ⟨by rfl, ?_⟩) HS.out ?_
          rotate_left
          · intro w hSw
            (try dsimp only at hSw)
            go_simp
            all_goals with_reducible rfl
          simp only [Act.put, List.getElem_toArray, List.getElem_cons_succ, List.getElem_cons_zero, List.setIfInBounds_toArray, List.set_cons_zero, List.set_cons_succ]
          refine wpAnyX_take (i := 10) (v := ?_) rfl (by kernel_rfl) (by kernel_rfl) (by kernel_rfl) (by kernel_rfl) (fun _ _ _ h => h) (Or.inl ⟨by rfl, ?_⟩) HS.out ?_
          rotate_left
          · intro w hSw
            (try dsimp only at hSw)
            go_simp
            all_goals with_reducible rfl
          simp only [Act.put, List.getElem_toArray, List.getElem_cons_succ, List.getElem_cons_zero, List.setIfInBounds_toArray, List.set_cons_zero, List.set_cons_succ]
          refine wpAnyX_take (i := 11) (v := ?_) rfl (by kernel_rfl) (by kernel_rfl) (by kernel_rfl) (by kernel_rfl) (fun _ _ _ h => h) (Or.inl ⟨by rfl, ?_⟩) HS.out ?_
          rotate_left
          · intro w hSw
            (try dsimp only at hSw)
            go_simp
            all_goals with_reducible rfl
          simp only [Act.put, List.getElem_toArray, List.getElem_cons_succ, List.getElem_cons_zero, List.setIfInBounds_toArray, List.set_cons_zero, List.set_cons_succ]
          refine wpAnyX_take (i := 12) (v := ?_) rfl (by kernel_rfl) (by kernel_rfl) (by kernel_rfl) (by kernel_rfl) (fun _ _ _ h => h) (Or.inl ⟨by rfl, ?_⟩) HS.out ?_
          rotate_left
          · intro w hSw
            (try dsimp only at hSw)
            go_simp
            all_goals with_reducible rfl
          simp only [Act.put, List.getElem_toArray, List.getElem_cons_succ, List.getElem_cons_zero, List.setIfInBounds_toArray, List.set_cons_zero, List.set_cons_succ]
          refine wpAnyX_take (i := 13) (v := ?_) rfl (by kernel_rfl) (by kernel_rfl) (by kernel_rfl) (by kernel_rfl) (fun _ _ _ h => h) (Or.inl ⟨by rfl, ?_⟩) HS.out ?_
          rotate_left
          · intro w hSw
            (try dsimp only at hSw)
            go_simp
            all_goals with_reducible rfl
          simp only [Act.put, List.getElem_toArray, List.getElem_cons_succ, List.getElem_cons_zero, List.setIfInBounds_toArray, List.set_cons_zero, List.set_cons_succ]
          refine wpAnyX_take (i := 14) (v := ?_) rfl (by kernel_rfl) (by kernel_rfl) (by kernel_rfl) (by kernel_rfl) (fun _ _ _ h => h) (Or.inl ⟨by rfl, ?_⟩) HS.out ?_
          rotate_left
          · intro w hSw
            (try dsimp only at hSw)
            go_simp
            all_goals with_reducible rfl
          simp only [Act.put, List.getElem_toArray, List.getElem_cons_succ, List.getElem_cons_zero, List.setIfInBounds_toArray, List.set_cons_zero, List.set_cons_succ]
          refine wpAnyX_take (i := 15) (v := ?_) rfl (by kernel_rfl) (by kernel_rfl) (by kernel_rfl) (by kernel_rfl) (fun _ _ _ h => h) (Or.inl ⟨by rfl, ?_⟩) HS.out ?_
          rotate_left
          · intro w hSw
            (try dsimp only at hSw)
            go_simp
            all_goals with_reducible rfl
          simp only [Act.put, List.getElem_toArray, List.getElem_cons_succ, List.getElem_cons_zero, List.setIfInBounds_toArray, List.set_cons_zero, List.set_cons_succ]
          refine wpAnyX_take (i := 16) (v := ?_) rfl (by kernel_rfl) (by kernel_rfl) (by kernel_rfl) (by kernel_rfl) (fun _ _ _ h => h) (Or.inl ⟨by rfl, ?_⟩) HS.out ?_
          rotate_left
          · intro w hSw
            (try dsimp only at hSw)
            go_simp
            all_goals with_reducible rfl
          simp only [Act.put, List.getElem_toArray, List.getElem_cons_succ, List.getElem_cons_zero, List.setIfInBounds_toArray, List.set_cons_zero, List.set_cons_succ]
          refine wpAnyX_take (i := 17) (v := ?_) rfl (by kernel_rfl) (by kernel_rfl) (by kernel_rfl) (by kernel_rfl) (fun _ _ _ h => h) (Or.inl ⟨by rfl, ?_⟩) HS.out ?_
          rotate_left
          · intro w hSw
            (try dsimp only at hSw)
            go_simp
            all_goals with_reducible rfl
          simp only [Act.put, List.getElem_toArray, List.getElem_cons_succ, List.getElem_cons_zero, List.setIfInBounds_toArray, List.set_cons_zero, List.set_cons_succ]
          refine wpAnyX_one (i := 18) (by kernel_rfl) rfl (fun K hK => ?_)
          go_simp
          refine hK.out _ _ (fun _ => SF.out _ ((Below.refl _ _).drew.alloc (Nat.le_refl _) _)) ?_
          clear hK
          try simp only [Act.put, List.getElem_toArray, List.getElem_cons_succ, List.getElem_cons_zero, List.setIfInBounds_toArray, List.set_cons_zero, List.set_cons_succ]
          refine wpAnyX_one (i := 19) (by kernel_rfl) rfl (fun K hK => ?_)
          refine step_append_lies _ (by rfl) _ _ _ (by rfl) wy.heap.size 57 i1 _ 2 16 Tryz.underlying25 hi1 jz0 jz1 jz2 rfl (by omega) (.slice e4 t.P.length f4) t.P.length (gps t.P) (by rfl) (by exact (HOG.out.drew).alloc _) ⟨w12.heap.size, 0, none⟩ 1 1 [.int .i64 gb, .int .i64 (gb + 1)] (by rfl) (by rfl) (World.news_of_block (cs := #[.int .i64 gb, .int .i64 (gb + 1)]) (t := 57) (fr := (0, 0)) (by exact heap_alloc_new _ _)) (by simp [Value.oneCell']) (by omega) (by unfold maxLen; omega) (by omega) (by simp; omega) (w12.heap.size + 1) (by simp) ?_
          intro gg cap13 w13 ho13 hg13 hat hlt13
          have hgo : q3.vp.ownBlock = (Value.slice e4 t.P.length f4).ownBlock := by rw [HGE2.out.2.2.2]
          have hlo := fun k (hk : (Value.slice e4 t.P.length f4).ownBlock = some k) => (own_lo HOG.out hk).1
          have hb13 : Below wy.heap.size w12 w13 := ((Below.refl wy.heap.size w12).drew.alloc (Nat.le_of_lt hwy) _).grown hg13 (by simp; omega) hlo
          have hto13 := TrO.addP (g := (gb, gb + 1)) (HO12.out.drew.alloc _) (by rw [hgo]; exact hg13) ho13
          have hty : w.heap.size < wy.heap.size := Nat.lt_of_lt_of_le (show w.heap.size < w4.heap.size from HX4.out.2) HLY.out.size
          have hbw : b < wy.heap.size := by
            have h := HT.out.q
            rw [HP4.out] at h
            obtain ⟨b2, o2, h1, h2⟩ := h.gps hmT
            injection h1 with h1
            injection h1 with h1 _ _
            subst h1
            have h3 := cell_lt (h2 1 _ rfl)
            exact Nat.lt_trans h3 hty
          have hr13 := HR12.out.belowB hb13 hbl
          have hr14 : OwnRow (w13.setCell ⟨w5.heap.size, 7, none⟩ (.slice (some ⟨gg, 0, none⟩) (t.P.length + 1) cap13)) w5.heap.size [.int .i64 t.sc, .string (bsB t.dt), .string (bsB t.vn), .string (bsB t.cm), .slice e1 t.S.length f1, .slice e2 t.V.length f2, .slice e3 t.G.length f3, .slice (some ⟨gg, 0, none⟩) (t.P.length + 1) cap13, .int .i64 t.en] := hr13.set (j := 7) (by simp) _
          have HR14 := Lib.hid hr14
          have HT14 := Lib.hid ((HT12.out.belowB hb13 hbl).set w5.heap.size 7 (.slice (some ⟨gg, 0, none⟩) (t.P.length + 1) cap13))
          have HO14 := Lib.hid (hto13.boxlt hbl 7 (.slice (some ⟨gg, 0, none⟩) (t.P.length + 1) cap13)).m0
          have HL14 := Lib.hid (show Below w4.heap.size w4 (w13.setCell ⟨w5.heap.size, 7, none⟩ (.slice (some ⟨gg, 0, none⟩) (t.P.length + 1) cap13)) from (HL12.out.trans (hb13.mono HLY.out.size)).setCell HSZ5.out _)
          have c7' := hr13.cell (j := 7) rfl
          have y7' := hr13.free (j := 7) (by simp)
          have HS13 := Lib.hid (And.intro c7' (And.intro ((hb13.cell (p := ⟨w.heap.size, 7, none⟩) hty).trans t7) ((hb13.cell (p := ⟨b, o + m * 2 + 1, none⟩) hbw).trans d1)))
          clear ho13 hg13 hat hlt13 hgo hlo hb13 hto13 hty hbw hr13 hr14 c7 t7 d1
          refine hK.out _ _ (fun _ => HS13.out) ?_
          clear hK
          try simp only [Act.put, List.getElem_toArray, List.getElem_cons_succ, List.getElem_cons_zero, List.setIfInBounds_toArray, List.set_cons_zero, List.set_cons_succ]
          refine wpAnyX_one (i := 20) (by kernel_rfl) rfl (fun K hK => ?_)
          go_simp
          refine hK.out _ _ (fun h => by simp at h) ?_
          clear hK
          try simp only [Act.put, List.getElem_toArray, List.getElem_cons_succ, List.getElem_cons_zero, List.setIfInBounds_toArray, List.set_cons_zero, List.set_cons_succ]
          refine wpAnyX_one (i := 21) (by kernel_rfl) rfl (fun K hK => ?_)
          go_simp
          refine hK.out _ _ (fun h => by simp at h) ?_
          clear hK
          try simp only [Act.put, List.getElem_toArray, List.getElem_cons_succ, List.getElem_cons_zero, List.setIfInBounds_toArray, List.set_cons_zero, List.set_cons_succ]
          refine ⟨by kernel_rfl, ?_⟩
          go_upto_region 20 with fail
          generalize w13.setCell ⟨w5.heap.size, 7, none⟩ (.slice (some ⟨gg, 0, none⟩) (t.P.length + 1) cap13) = w14 at *
          clear c7' y7' HS13 HS
          have hva := tr_Valid _ _ w14 HO14.out (fb_addP HV.out.fb hp16 (gb, gb + 1)) (HG.out.below (ext_trans HB4.out HL14.out)) (HM.out.below (ext_trans HB4.out HL14.out)) HV.out.sg
          have hqv : TP.v { q3 with vp := .slice (some ⟨gg, 0, none⟩) (t.P.length + 1) cap13 } { t with P := t.P ++ [(gb, gb + 1)] } = .agg #[.int .i64 t.sc, .string (bsB t.dt), .string (bsB t.vn), .string (bsB t.cm), .slice e1 t.S.length f1, .slice e2 t.V.length f2, .slice e3 t.G.length f3, .slice (some ⟨gg, 0, none⟩) (t.P.length + 1) cap13, .int .i64 t.en] := by
            unfold TP.v
            dsimp only
            rw [HGE2.out.1, HGE2.out.2.1, HGE2.out.2.2.1, hq2l.out]
          have hst := HST.out
          rw [hst] at hva
          rw [hqv] at hva
          have HVA := Lib.hid hva
          clear hva hqv hst
          have z0 := (HR14).out.cell (j := 0) rfl
          have z1 := (HR14).out.cell (j := 1) rfl
          have z2 := (HR14).out.cell (j := 2) rfl
          have z3 := (HR14).out.cell (j := 3) rfl
          have z4 := (HR14).out.cell (j := 4) rfl
          have z5 := (HR14).out.cell (j := 5) rfl
          have z6 := (HR14).out.cell (j := 6) rfl
          have z7 := (HR14).out.cell (j := 7) rfl
          have z8 := (HR14).out.cell (j := 8) rfl
          go_wp2_with fail
          refine HVA.out.mono ?_
          rintro e w15 ⟨rfl, hb15⟩
          have HL15 := Lib.hid (show Below w4.heap.size w4 w15 from ext_trans HL14.out hb15)
          have HBX15 := Lib.hid (show BxA w15 w5.heap.size from ⟨_, _, _, _, _, _, _, _, _, HR14.out.below hb15 HT14.out.lt, HT14.out.below hb15⟩)
          clear hb15 z0 z1 z2 z3 z4 z5 z6 z7 z8
          go_wp2_with fail
          go_meet
          case rel => exact ⟨HBX15.out, HL15.out⟩
      case rest =>
        obtain ⟨wz, rfl⟩ : ∃ wz, wz = wc := ⟨_, rfl⟩
        obtain ⟨hbz, hlz⟩ := hcut
        have HBXZ := Lib.hid hbz
        have HLZ := Lib.hid hlz
        have HXZ := Lib.hid (HX4.out.step hlz)
        have HZZ := Lib.hid (show w5.heap.size < wz.heap.size from by
          obtain ⟨_, _, _, _, _, _, _, _, _, _, h⟩ := hbz
          exact h.lt)
        clear hbz hlz p0 p1 p2 p3 p4 p5 p6 p7 p8
        obtain ⟨p0, p1, p2, p3, p4, p5, p6, p7, p8⟩ := HXZ.out.nine
        by_cases hG0 : t.G = []
        · have hTb : ¬ 0 < t.G.length := by rw [hG0]; simp
          have hTd : decide ((0 : Int) < (t.G.length : Int)) = false := by rw [decide_eq_false_iff_not]; omega
          clear hG0
          go_wp2_with fail
          go_ret
          exact ⟨rfl, ext_trans HB4.out HLZ.out⟩
        · obtain ⟨s0, G, hG⟩ : ∃ s0 G, t.G = s0 :: G := by
            cases h : t.G with
            | nil => exact absurd h hG0
            | cons a l => exact ⟨a, l, rfl⟩
          have hTb : 0 < t.G.length := List.length_pos_iff.2 hG0
          have hTb2 : (0 : Int) < (t.G.length : Int) := by omega
          have HGG := Lib.hid hG
          clear hG0 hG
          go_wp2_with fail
          refine (HCC.out wz (ext_trans HB4.out HLZ.out)).mono ?_
          rintro e w21 ⟨q4, rfl, hq2, hb11⟩
          obtain ⟨e1, f1, e2, f2, e3, f3, e4, f4, e, g1, g2, g3, g4, -⟩ := hq2.m0.open
          rw [e]
          have HGE2 := Lib.hid (And.intro g1 (And.intro g2 (And.intro g3 g4)))
          have hq2l := Lib.hid hq2.m0.len
          have HBX11 := HBXZ.out.below hb11
          have hbl : w5.heap.size < wz.heap.size := HZZ.out
          obtain ⟨v0, v1, v2, v3, v4, v5, v6, v7, v8, hvr, hvt⟩ := HBX11
          have c0 := hvr.cell (j := 0) rfl
          have c1 := hvr.cell (j := 1) rfl
          have c2 := hvr.cell (j := 2) rfl
          have c3 := hvr.cell (j := 3) rfl
          have c4 := hvr.cell (j := 4) rfl
          have c5 := hvr.cell (j := 5) rfl
          have c6 := hvr.cell (j := 6) rfl
          have c7 := hvr.cell (j := 7) rfl
          have c8 := hvr.cell (j := 8) rfl
          have k0 := hvr.free (j := 0) (by simp)
          have k1 := hvr.free (j := 1) (by simp)
          have k2 := hvr.free (j := 2) (by simp)
          have k3 := hvr.free (j := 3) (by simp)
          have k4 := hvr.free (j := 4) (by simp)
          have k5 := hvr.free (j := 5) (by simp)
          have k6 := hvr.free (j := 6) (by simp)
          have k7 := hvr.free (j := 7) (by simp)
          have k8 := hvr.free (j := 8) (by simp)
          have hr12 : OwnRow (((((((((w21.setCell ⟨w5.heap.size, 0, none⟩ (.int .i64 t.sc)).setCell ⟨w5.heap.size, 1, none⟩ (.string (bsB t.dt))).setCell ⟨w5.heap.size, 2, none⟩ (.string (bsB t.vn))).setCell ⟨w5.heap.size, 3, none⟩ (.string (bsB t.cm))).setCell ⟨w5.heap.size, 4, none⟩ (.slice e1 t.S.length f1)).setCell ⟨w5.heap.size, 5, none⟩ (.slice e2 t.V.length f2)).setCell ⟨w5.heap.size, 6, none⟩ (.slice e3 t.G.length f3)).setCell ⟨w5.heap.size, 7, none⟩ (.slice e4 t.P.length f4)).setCell ⟨w5.heap.size, 8, none⟩ (.int .i64 t.en)) w5.heap.size [.int .i64 t.sc, .string (bsB t.dt), .string (bsB t.vn), .string (bsB t.cm), .slice e1 t.S.length f1, .slice e2 t.V.length f2, .slice e3 t.G.length f3, .slice e4 t.P.length f4, .int .i64 t.en] := set9_row hvr _ _ _ _ _ _ _ _ _
          have ho12 : TrO wz.heap.size (((((((((w21.setCell ⟨w5.heap.size, 0, none⟩ (.int .i64 t.sc)).setCell ⟨w5.heap.size, 1, none⟩ (.string (bsB t.dt))).setCell ⟨w5.heap.size, 2, none⟩ (.string (bsB t.vn))).setCell ⟨w5.heap.size, 3, none⟩ (.string (bsB t.cm))).setCell ⟨w5.heap.size, 4, none⟩ (.slice e1 t.S.length f1)).setCell ⟨w5.heap.size, 5, none⟩ (.slice e2 t.V.length f2)).setCell ⟨w5.heap.size, 6, none⟩ (.slice e3 t.G.length f3)).setCell ⟨w5.heap.size, 7, none⟩ (.slice e4 t.P.length f4)).setCell ⟨w5.heap.size, 8, none⟩ (.int .i64 t.en)) t q4 := hq2.nine hbl _ _ _ _ _ _ _ _ _
          have ht12 : TBox (((((((((w21.setCell ⟨w5.heap.size, 0, none⟩ (.int .i64 t.sc)).setCell ⟨w5.heap.size, 1, none⟩ (.string (bsB t.dt))).setCell ⟨w5.heap.size, 2, none⟩ (.string (bsB t.vn))).setCell ⟨w5.heap.size, 3, none⟩ (.string (bsB t.cm))).setCell ⟨w5.heap.size, 4, none⟩ (.slice e1 t.S.length f1)).setCell ⟨w5.heap.size, 5, none⟩ (.slice e2 t.V.length f2)).setCell ⟨w5.heap.size, 6, none⟩ (.slice e3 t.G.length f3)).setCell ⟨w5.heap.size, 7, none⟩ (.slice e4 t.P.length f4)).setCell ⟨w5.heap.size, 8, none⟩ (.int .i64 t.en)) w5.heap.size := hvt.nine _ _ _ _ _ _ _ _ _
          have hl12 : Below w4.heap.size w4 (((((((((w21.setCell ⟨w5.heap.size, 0, none⟩ (.int .i64 t.sc)).setCell ⟨w5.heap.size, 1, none⟩ (.string (bsB t.dt))).setCell ⟨w5.heap.size, 2, none⟩ (.string (bsB t.vn))).setCell ⟨w5.heap.size, 3, none⟩ (.string (bsB t.cm))).setCell ⟨w5.heap.size, 4, none⟩ (.slice e1 t.S.length f1)).setCell ⟨w5.heap.size, 5, none⟩ (.slice e2 t.V.length f2)).setCell ⟨w5.heap.size, 6, none⟩ (.slice e3 t.G.length f3)).setCell ⟨w5.heap.size, 7, none⟩ (.slice e4 t.P.length f4)).setCell ⟨w5.heap.size, 8, none⟩ (.int .i64 t.en)) := set9_below (ext_trans HLZ.out hb11) HSZ5.out _ _ _ _ _ _ _ _ _
          go_upto_region 24 with fail
          generalize ((((((((w21.setCell ⟨w5.heap.size, 0, none⟩ (.int .i64 t.sc)).setCell ⟨w5.heap.size, 1, none⟩ (.string (bsB t.dt))).setCell ⟨w5.heap.size, 2, none⟩ (.string (bsB t.vn))).setCell ⟨w5.heap.size, 3, none⟩ (.string (bsB t.cm))).setCell ⟨w5.heap.size, 4, none⟩ (.slice e1 t.S.length f1)).setCell ⟨w5.heap.size, 5, none⟩ (.slice e2 t.V.length f2)).setCell ⟨w5.heap.size, 6, none⟩ (.slice e3 t.G.length f3)).setCell ⟨w5.heap.size, 7, none⟩ (.slice e4 t.P.length f4)).setCell ⟨w5.heap.size, 8, none⟩ (.int .i64 t.en) = w22 at *
          have HR12 := Lib.hid hr12
          have HO12 := Lib.hid ho12
          have HT12 := Lib.hid ht12
          have HL12 := Lib.hid hl12
          clear hr12 ho12 ht12 hl12
          clear c0 c1 c2 c3 c4 c5 c6 c7 c8 k0 k1 k2 k3 k4 k5 k6 k7 k8 hvr hvt hb11 hq2 e g1 g2 g3 g4
          clear p0 p1 p2 p3 p4 p5 p6 p7 p8
          have hog := HO12.out.g
          obtain ⟨x0, M, hM⟩ : ∃ x0 M, q4.M = x0 :: M := by
            cases h : q4.M with
            | nil => have h1 := hq2l.out; rw [h] at h1; simp only [List.length_nil] at h1; omega
            | cons a l => exact ⟨a, l, rfl⟩
          have hlM : M.length + 1 = t.G.length := by rw [← hq2l.out, hM]; rfl
          obtain ⟨g, he3⟩ : ∃ g, e3 = some (⟨g, 0, none⟩ : Addr) := by
            have h := hog
            rw [HGE2.out.2.2.1] at h
            rcases h.2 with ⟨h1, h2⟩ | ⟨g', cap', cur, h1, -⟩
            · rw [hM] at h2; simp at h2
            · injection h1 with h1 _ _
              exact ⟨g', h1⟩
          subst he3
          have hvg : q4.vg = .slice (some ⟨g, 0, none⟩) (M.length + 1) f3 := by rw [HGE2.out.2.2.1, hM]; rfl
          have hgl := own_lo hog (g := g) (by rw [hvg]; rfl)
          rw [hvg, hM] at hog
          have hrow := own_row hog
          have r0 : w22.cell? ⟨g, 0, none⟩ = some (.int .i64 x0.1.1) := hrow.cell (j := 0) rfl
          have r1 : w22.cell? ⟨g, 1, none⟩ = some (.int .i64 x0.1.2.1) := hrow.cell (j := 1) rfl
          have r2 : w22.cell? ⟨g, 2, none⟩ = some x0.2 := hrow.cell (j := 2) rfl
          have l0 := hrow.free (j := 0) (by rw [sgs_len, List.length_cons]; omega)
          have l1 := hrow.free (j := 1) (by rw [sgs_len, List.length_cons]; omega)
          have l2 := hrow.free (j := 2) (by rw [sgs_len, List.length_cons]; omega)
          have hne : g ≠ w5.heap.size := fun h => by have := HZZ.out; omega
          have hto := HO12.out.setG hM hvg
          have hrr : OwnRow (((w22.setCell ⟨g, 0, none⟩ (.int .i64 2)).setCell ⟨g, 1, none⟩ (.int .i64 0)).setCell ⟨g, 2, none⟩ (.slice none 0 0)) w5.heap.size _ := ((HR12.out.other (a := ⟨g, 0, none⟩) hne (.int .i64 2)).other (a := ⟨g, 1, none⟩) hne (.int .i64 0)).other (a := ⟨g, 2, none⟩) hne (.slice none 0 0)
          have hwg : w4.heap.size ≤ g := Nat.le_trans HLZ.out.size hgl.1
          have hll : Below w4.heap.size w4 (((w22.setCell ⟨g, 0, none⟩ (.int .i64 2)).setCell ⟨g, 1, none⟩ (.int .i64 0)).setCell ⟨g, 2, none⟩ (.slice none 0 0)) := ((HL12.out.setCell hwg _).setCell hwg _).setCell hwg _
          have z6 := HR12.out.cell (j := 6) rfl
          have HTO4 := Lib.hid hto.m0
          have HLM := Lib.hid hlM
          have HM4 := Lib.hid hM
          clear hog hrow hto hlM hM hvg hgl hwg
          go_upto_region 25 with fail
          generalize ((w22.setCell ⟨g, 0, none⟩ (.int .i64 2)).setCell ⟨g, 1, none⟩ (.int .i64 0)).setCell ⟨g, 2, none⟩ (.slice none 0 0) = w23 at *
          clear r0 r1 r2 l0 l1 l2 z6
          have HR23 := Lib.hid hrr
          have HL23 := Lib.hid hll
          have HX23 := Lib.hid (HX4.out.step hll)
          clear hrr hll
          have hm0 : 0 < p.M.length := by rw [HT.out.len]; exact hTb
          have hsg := (HT.out.below (ext_trans HB4.out HL23.out)).g
          rw [HP3.out, ← HT.out.len] at hsg
          obtain ⟨b, o, hb0, d0, -, -, -⟩ := hsg.at hm0
          have hG0 : p.M[0].1 = s0 := by
            have h : (p.M.map Prod.fst)[0]? = t.G[0]? := by rw [HT.out.m]
            rw [List.getElem?_map, List.getElem?_eq_getElem hm0, HGG.out] at h
            exact Option.some.inj h
          rw [hG0] at d0
          have d0 : w23.cell? ⟨b, o, none⟩ = some (.int .i64 s0.1) := by simpa using d0
          clear hsg hG0 hm0
          subst hb0
          obtain ⟨p0, p1, p2, p3, p4, p5, p6, p7, p8⟩ := HX23.out.nine
          by_cases hk : s0.1 = 2
          · rw [hk] at d0
            clear hk
            go_wp2_with fail
            go_ret
            exact ⟨rfl, ext_trans HB4.out HL23.out⟩
          · have hkb : (s0.1 == 2) = false := by rw [beq_eq_false_iff_ne]; exact hk
            have hva := tr_Valid _ _ w23 HTO4.out (fb_setG HV.out.fb (fun s hs => List.mem_of_mem_tail hs)) (HG.out.below (ext_trans HB4.out HL23.out)) (HM.out.below (ext_trans HB4.out HL23.out)) HV.out.sg
            have hqv : TP.v { q4 with M := ((2, 0, []), .slice none 0 0) :: M } { t with G := (2, 0, []) :: t.G.tail } = .agg #[.int .i64 t.sc, .string (bsB t.dt), .string (bsB t.vn), .string (bsB t.cm), .slice e1 t.S.length f1, .slice e2 t.V.length f2, .slice (some ⟨g, 0, none⟩) t.G.length f3, .slice e4 t.P.length f4, .int .i64 t.en] := by
              unfold TP.v
              dsimp only
              rw [HGE2.out.1, HGE2.out.2.1, HGE2.out.2.2.1, HGE2.out.2.2.2, hq2l.out]
            have htl : t.G.tail = G := by rw [HGG.out]; rfl
            have hnv := not_valid (spoil_kind HVF.out HGG.out hk)
            rw [← htl] at hnv
            rw [hnv] at hva
            rw [hqv] at hva
            have HVA := Lib.hid hva
            clear hva hqv hnv htl hk
            have z0 := (HR23).out.cell (j := 0) rfl
            have z1 := (HR23).out.cell (j := 1) rfl
            have z2 := (HR23).out.cell (j := 2) rfl
            have z3 := (HR23).out.cell (j := 3) rfl
            have z4 := (HR23).out.cell (j := 4) rfl
            have z5 := (HR23).out.cell (j := 5) rfl
            have z6 := (HR23).out.cell (j := 6) rfl
            have z7 := (HR23).out.cell (j := 7) rfl
            have z8 := (HR23).out.cell (j := 8) rfl
            generalize s0.1 = sk at *
            go_wp2_with fail
            refine HVA.out.mono ?_
            rintro e w24 ⟨rfl, hb24⟩
            have HL24 := Lib.hid (ext_trans HL23.out hb24)
            clear hb24
            go_wp2_with fail
            go_ret
            exact ⟨rfl, ext_trans HB4.out HL24.out⟩
end Go.Proofs.YtbiadennhnokhaaGreatDoor
