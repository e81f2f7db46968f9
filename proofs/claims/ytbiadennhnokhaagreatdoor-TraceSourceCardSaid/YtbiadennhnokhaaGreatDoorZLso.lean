/- law23.TraceSource. -/
import Derived.Test.YtbiadennhnokhaaGreatDoorZ40
import Derived.Test.YtbiadennhnokhaaGreatDoorZ09
import Derived.Handy
import Derived.BigQuiet
import Derived.Deep.RegionHeld3
import Derived.Deep.Cut
namespace Go.Proofs.YtbiadennhnokhaaGreatDoor
open Go.RowKit
set_option linter.unusedSimpArgs false

theorem src_out {t : Tr} {n : Int} (h : ¬ (0 ≤ n ∧ n < (t.G.length : Int))) (tm to_ : Int) : srcKind t n = (0, 0, 2) ∧ srcVal t n tm = (⟨#[]⟩, 2) ∧ srcNext t n tm = ((0, ⟨#[]⟩), 2) ∧ srcPrev t n tm = ((0, ⟨#[]⟩), 2) ∧ srcWin t n tm to_ = ([], 2) := by
  have k : ∀ tm lo hi, hasS t n tm lo hi = false := fun tm lo hi => by
    rw [← Bool.not_eq_true, hasS_iff]
    exact fun h' => h ⟨h'.1, h'.2.1⟩
  unfold srcKind srcVal srcNext srcPrev srcWin
  refine ⟨?_, ?_, ?_, ?_, ?_⟩
  · rw [k]; rfl
  · rw [k]; rfl
  · rw [k]; rfl
  · rw [k]; rfl
  · rw [k]; rfl
theorem src_in {t : Tr} {j : Nat} (h : j < t.G.length) (tm to_ : Int) : srcKind t j = (t.G[j].1, t.G[j].2.1, 0) ∧
    srcVal t j tm = (if 0 ≤ tm ∧ tm ≤ t.en then atR t.G[j].1 t.G[j].2.1 t.G[j].2.2 tm else (⟨#[]⟩, 2)) ∧
    srcNext t j tm = (if -1 ≤ tm ∧ tm ≤ t.en then nextR t.G[j].1 t.G[j].2.1 t.G[j].2.2 tm else ((0, ⟨#[]⟩), 2)) ∧
    srcPrev t j tm = (if 0 ≤ tm ∧ tm ≤ t.en + 1 then prevR t.G[j].1 t.G[j].2.1 t.G[j].2.2 tm else ((0, ⟨#[]⟩), 2)) ∧
    srcWin t j tm to_ = (if 0 ≤ tm ∧ tm ≤ to_ ∧ to_ ≤ t.en then (winR t.G[j].1 t.G[j].2.1 t.G[j].2.2 tm to_, 0) else ([], 2)) := by
  have e : sgI t.G (j : Int) = t.G[j] := by unfold sgI; simp [List.getD, h]
  have k : ∀ tm lo hi, hasS t (j : Int) tm lo hi = true ↔ lo ≤ tm ∧ tm ≤ hi := fun tm lo hi => by
    rw [hasS_iff]
    constructor
    · exact fun h' => h'.2.2
    · exact fun h' => ⟨by omega, by omega, h'⟩
  unfold srcKind srcVal srcNext srcPrev srcWin
  rw [e]
  refine ⟨?_, ?_, ?_, ?_, ?_⟩
  · rw [if_pos ((k 0 0 0).2 ⟨Int.le_refl _, Int.le_refl _⟩)]
  · by_cases h1 : 0 ≤ tm ∧ tm ≤ t.en
    · rw [if_pos ((k tm 0 t.en).2 h1), if_pos h1]
    · rw [if_neg (fun h => h1 ((k tm 0 t.en).1 h)), if_neg h1]
  · by_cases h1 : -1 ≤ tm ∧ tm ≤ t.en
    · rw [if_pos ((k tm (-1) t.en).2 h1), if_pos h1]
    · rw [if_neg (fun h => h1 ((k tm (-1) t.en).1 h)), if_neg h1]
  · by_cases h1 : 0 ≤ tm ∧ tm ≤ t.en + 1
    · rw [if_pos ((k tm 0 (t.en + 1)).2 h1), if_pos h1]
    · rw [if_neg (fun h => h1 ((k tm 0 (t.en + 1)).1 h)), if_neg h1]
  · by_cases h1 : 0 ≤ tm ∧ tm ≤ to_ ∧ to_ ≤ t.en
    · rw [if_pos ⟨(k tm 0 to_).2 ⟨h1.1, h1.2.1⟩, h1.2.2⟩, if_pos h1]
    · rw [if_neg (fun h => h1 ⟨((k tm 0 to_).1 h.1).1, ((k tm 0 to_).1 h.1).2, h.2⟩), if_neg h1]
theorem sameC_refl (l : List Ch) : sameC l l = true := decide_eq_true rfl
set_option maxHeartbeats 3200000 in
set_option maxRecDepth 100000 in
theorem law_TraceSource (t : Tr) (p : TP) (n tm to_ : Int) (w : World) (ht : TrM w t p) (hi : InT t) (hg : Glob w) (hm : Glm w) :
    Calls Tryz.prog 9 #[p.v t, .int .i64 n, .int .i64 tm, .int .i64 to_] w fun e w' => e = .returned (.bool true) ∧ Below w.heap.size w w' := by
  obtain ⟨a1, k1, a2, k2, a3, k3, a4, k4, e, -⟩ := ht.open
  have HT := Lib.hid ht
  have HI := Lib.hid hi
  have HG := Lib.hid hg
  have HM := Lib.hid hm
  have HE := Lib.hid e
  have HB1 := Lib.hid (below_new w (boxT t a1 a2 a3 a4 k1 k2 k3 k4) 27)
  have HX1 := Lib.hid (Bx.new w (boxT t a1 a2 a3 a4 k1 k2 k3 k4) 27)
  rw [e]
  clear ht hi hg hm e
  go_enter Tryz.func9, Tryz.ntmps9
  go_wp2_with fail
  generalize w.alloc (.cells (boxT t a1 a2 a3 a4 k1 k2 k3 k4) 27) = w1 at *
  refine (law_awake23 w1 (HG.out.below HB1.out) (HM.out.below HB1.out)).mono ?_
  rintro e w2 ⟨rfl, hb2⟩
  have HB2 := Lib.hid (ext_trans HB1.out hb2)
  have HX2 := Lib.hid (HX1.out.step hb2)
  obtain ⟨p0, p1, p2, p3, p4, p5, p6, p7, p8⟩ := HX2.out.nine
  have hfw := rf_Few23 t p 60 w2 (HT.out.below HB2.out) (by decide) ⟨by have := HI.out.tx; omega, by have := HI.out.tx; omega, by have := HI.out.tx; omega⟩
  rw [HE.out] at hfw
  have HFW := Lib.hid hfw
  clear hb2 hfw
  rcases Bool.eq_false_or_eq_true (fewT t 60) with hfew | hfew
  rotate_left
  · rw [hfew] at HFW
    clear hfew
    go_wp2_with fail
    refine HFW.out.mono ?_
    rintro e w3 ⟨rfl, hb3⟩
    have HB3 := Lib.hid (ext_trans HB2.out hb3)
    clear hb3
    go_wp2_with fail
    go_ret
    exact ⟨rfl, HB3.out⟩
  have HV := Lib.hid (few_fit (by decide) (by decide) hfew (fun x hx => (HI.out.v x hx).2.2.2.1) (fun s hs c hc => ((HI.out.g s hs).2.2 c hc).1))
  rw [hfew] at HFW
  clear hfew
  go_wp2_with fail
  refine HFW.out.mono ?_
  rintro e w3 ⟨rfl, hb3⟩
  have HB3 := Lib.hid (ext_trans HB2.out hb3)
  have HX3 := Lib.hid (HX2.out.step hb3)
  clear p0 p1 p2 p3 p4 p5 p6 p7 p8 hb3
  have hso := tr_Source t p w3 (HT.out.below HB3.out) HV.out.fb HV.out.ft.2.2.1 (HG.out.below HB3.out) (HM.out.below HB3.out) HV.out.sg
  rw [HE.out] at hso
  have HSO := Lib.hid hso
  clear hso HFW
  obtain ⟨p0, p1, p2, p3, p4, p5, p6, p7, p8⟩ := HX3.out.nine
  go_wp2_with fail
  refine HSO.out.mono ?_
  rintro e w4 ⟨q, rfl, hq, hb4⟩
  have HB4 := Lib.hid (ext_trans HB3.out hb4)
  have HX4 := Lib.hid (HX3.out.step hb4)
  have HQ4 := Lib.hid hq
  obtain ⟨u1, v1, u2, v2, u3, v3, u4, v4, e, -⟩ := hq.open
  have HQE := Lib.hid e
  have HSB := Lib.hid (SrcB.src t)
  rw [e]
  clear hq hb4 e HSO p0 p1 p2 p3 p4 p5 p6 p7 p8
  have hga := src_Gaps (srcT t) q w4 HQ4.out (by unfold srcT; split; exact HV.out.fb.p; decide)
  rw [HQE.out] at hga
  have HGA := Lib.hid hga
  clear hga
  go_wp2_with fail
  refine HGA.out.mono ?_
  rintro e w5 ⟨vg, rfl, hvg, hb5⟩
  obtain ⟨ga, gc, rfl, -, -⟩ := (SlR.of_own hvg).shape
  have HVG := Lib.hid (SlR.of_own hvg)
  have HB5 := Lib.hid (ext_trans HB4.out hb5)
  have HX5 := Lib.hid (HX4.out.step hb5)
  have HQ5 := Lib.hid (HQ4.out.below hb5)
  clear hvg hb5 HGA
  obtain ⟨p0, p1, p2, p3, p4, p5, p6, p7, p8⟩ := HX5.out.nine
  have hva := tr_Valid t p w5 (HT.out.below HB5.out) HV.out.fb (HG.out.below HB5.out) (HM.out.below HB5.out) HV.out.sg
  rw [HE.out] at hva
  have HVA := Lib.hid hva
  clear hva
  rcases Bool.eq_false_or_eq_true (validB t) with hv | hv
  rotate_left
  · have HST := Lib.hid (show srcT t = { tr0 with en := -1 } by unfold srcT; rw [hv]; rfl)
    rw [hv] at HVA
    clear hv
    have hsig := fun W (hW : Below w5.heap.size w5 W) => src_Signals (srcT t) q W (HQ5.out.below hW)
    have hend := fun W (hW : Below w5.heap.size w5 W) => src_End (srcT t) q W (HQ5.out.below hW)
    rw [HQE.out, HST.out] at hsig hend
    have HSIG := Lib.hid hsig
    have HEND := Lib.hid hend
    have hgl : ((srcT t).P.length : Int) = 0 := by rw [HST.out]; rfl
    clear hsig hend
    go_wp2_with fail
    refine HVA.out.mono ?_
    rintro e w6 ⟨rfl, hb6⟩
    have HD6 := Lib.hid hb6
    clear hb6 p0 p1 p2 p3 p4 p5 p6 p7 p8 HVA
    go_wp2_with fail
    rw [show srcT t = { tr0 with en := -1 } from HST.out]
    refine (HSIG.out w6 HD6.out).mono ?_
    rintro e w7 ⟨rfl, hb7⟩
    have HD7 := Lib.hid (ext_trans HD6.out hb7)
    clear hb7
    go_wp2_with fail
    refine (HEND.out w7 HD7.out).mono ?_
    rintro e w8 ⟨rfl, hb8⟩
    have HD8 := Lib.hid (ext_trans HD7.out hb8)
    clear hb8
    go_wp2_with fail
    go_ret
    exact ⟨rfl, ext_trans HB5.out HD8.out⟩
  have HST := Lib.hid (show srcT t = t by unfold srcT; rw [if_pos hv])
  have HVF := Lib.hid (validB_iff.1 hv)
  rw [hv] at HVA
  clear hv
  rw [HST.out] at HQ5 HVG HSB
  have hqe := HQE.out
  rw [HST.out] at hqe
  have HQT := Lib.hid hqe
  have hpe := HE.out
  unfold TP.v at hpe
  injection hpe with hpe
  simp at hpe
  obtain ⟨-, -, e3, e4⟩ := hpe
  have hsig := fun W (hW : Below w5.heap.size w5 W) => src_Signals t q W (HQ5.out.below hW)
  have hend := fun W (hW : Below w5.heap.size w5 W) => src_End t q W (HQ5.out.below hW)
  have hkin := fun W (hW : Below w5.heap.size w5 W) => src_Kind t q n W (HQ5.out.below hW)
  have hval := fun W (hW : Below w5.heap.size w5 W) => src_Value t q n tm W (HQ5.out.below hW) HSB.out (HG.out.below (ext_trans HB5.out hW))
  have hnex := fun W (hW : Below w5.heap.size w5 W) => src_Next t q n tm W (HQ5.out.below hW) HSB.out (HG.out.below (ext_trans HB5.out hW))
  have hpre := fun W (hW : Below w5.heap.size w5 W) => src_Previous t q n tm W (HQ5.out.below hW) HSB.out (HG.out.below (ext_trans HB5.out hW))
  have hwin := fun W (hW : Below w5.heap.size w5 W) => src_Window t q n tm to_ W (HQ5.out.below hW) HSB.out (HG.out.below (ext_trans HB5.out hW))
  rw [HQT.out] at hsig hend hkin hval hnex hpre hwin
  obtain ⟨⟨kd, kw, ke⟩, hKD⟩ : ∃ r, r = srcKind t n := ⟨_, rfl⟩
  obtain ⟨⟨sv1, sv2⟩, hSV⟩ : ∃ r, r = srcVal t n tm := ⟨_, rfl⟩
  obtain ⟨⟨⟨nx1, nx2⟩, nx3⟩, hNX⟩ : ∃ r, r = srcNext t n tm := ⟨_, rfl⟩
  obtain ⟨⟨⟨pv1, pv2⟩, pv3⟩, hPV⟩ : ∃ r, r = srcPrev t n tm := ⟨_, rfl⟩
  obtain ⟨⟨wl, we⟩, hWL⟩ : ∃ r, r = srcWin t n tm to_ := ⟨_, rfl⟩
  rw [← hKD] at hkin
  rw [← hSV] at hval
  rw [← hNX] at hnex
  rw [← hPV] at hpre
  rw [← hWL] at hwin
  dsimp only at hkin hval hnex hpre
  have HKD := Lib.hid hKD
  have HSV := Lib.hid hSV
  have HNX := Lib.hid hNX
  have HPV := Lib.hid hPV
  have HWL := Lib.hid hWL
  clear hKD hSV hNX hPV hWL
  have hgps := fun W (hW : Below w5.heap.size w5 W) => eq_gps (.slice ga t.P.length gc) p.vp t.P t.P W (HVG.out.below hW) ((HT.out.below (ext_trans HB5.out hW)).q)
  rw [e4, decide_eq_true (rfl : t.P = t.P)] at hgps
  have HSIG := Lib.hid hsig
  have HEND := Lib.hid hend
  have HKIN := Lib.hid hkin
  have HVALC := Lib.hid hval
  have HNEX := Lib.hid hnex
  have HPRE := Lib.hid hpre
  have HWIN := Lib.hid hwin
  have HGPS := Lib.hid hgps
  have HE3 := Lib.hid e3
  clear hqe HQE HQ4 hsig hend hkin hval hnex hpre hwin hgps e3 e4
  rw [show srcT t = t from HST.out]
  go_wp2_with fail
  refine HVA.out.mono ?_
  rintro e w6 ⟨rfl, hb6⟩
  have HD6 := Lib.hid (show Below w5.heap.size w5 w6 from hb6)
  have HX6 := Lib.hid (HX5.out.step hb6)
  have HD6d := Lib.hid (show Below w5.heap.size w5 w6.drew from hb6.drew)
  clear hb6 p0 p1 p2 p3 p4 p5 p6 p7 p8 HVA
  obtain ⟨p0, p1, p2, p3, p4, p5, p6, p7, p8⟩ := HX6.out.nine
  go_upto_region 11 with fail
  go_region_held3 (fun w' => w'.cell? ⟨w.heap.size, 6, none⟩ = some (.slice a3 t.G.length k3) ∧ w'.cell? ⟨w.heap.size, 7, none⟩ = some (.slice a4 t.P.length k4) ∧ w'.cell? ⟨w.heap.size, 8, none⟩ = some (.int .i64 t.en))
    (first | exact ⟨HX9.out.1.cell (j := 6) rfl, HX9.out.1.cell (j := 7) rfl, HX9.out.1.cell (j := 8) rfl⟩ | exact ⟨HX8.out.1.cell (j := 6) rfl, HX8.out.1.cell (j := 7) rfl, HX8.out.1.cell (j := 8) rfl⟩ | exact ⟨HX7.out.1.cell (j := 6) rfl, HX7.out.1.cell (j := 7) rfl, HX7.out.1.cell (j := 8) rfl⟩ | exact ⟨p6, p7, p8⟩ | go_keep)
    (first
      | (go_at_call 32; (with_reducible refine (HGPS.out w6.drew HD6d.out).mono ?_); rintro e w7 ⟨rfl, hb7⟩; have HD7 := Lib.hid (ext_trans HD6d.out hb7); have HX7 := Lib.hid (HX5.out.step HD7.out); clear hb7)
      | (go_at_call 366; (with_reducible refine (HSIG.out w7 HD7.out).mono ?_); rintro e w8 ⟨rfl, hb8⟩; have HD8 := Lib.hid (ext_trans HD7.out hb8); have HX8 := Lib.hid (HX5.out.step HD8.out); clear hb8)
      | (go_at_call 361; (with_reducible refine (HEND.out w8 HD8.out).mono ?_); rintro e w9 ⟨rfl, hb9⟩; have HD9 := Lib.hid (ext_trans HD8.out hb9); have HX9 := Lib.hid (HX5.out.step HD9.out); clear hb9)
      | fail "no arm")
  clear p0 p1 p2 p3 p4 p5 p6 p7 p8 HSIG HEND HGPS
  go_upto_region 13 with fail
  go_wp2_with fail
  refine (HKIN.out w9 HD9.out).mono ?_
  rintro e w10 ⟨rfl, hb10⟩
  have HD10 := Lib.hid (ext_trans HD9.out hb10)
  clear hb10 HKIN
  go_wp2_with fail
  refine (HVALC.out w10 HD10.out).mono ?_
  rintro e w11 ⟨rfl, hb11⟩
  have HD11 := Lib.hid (ext_trans HD10.out hb11)
  clear hb11 HVALC
  go_wp2_with fail
  refine (HNEX.out w11 HD11.out).mono ?_
  rintro e w12 ⟨rfl, hb12⟩
  have HD12 := Lib.hid (ext_trans HD11.out hb12)
  have hal := below_new w12 #[.int .i64 nx1, .string nx2] 53
  have HC12 := Lib.hid (Bx.new w12 #[.int .i64 nx1, .string nx2] 53)
  have HD12a := Lib.hid (ext_trans HD12.out hal)
  clear hb12 HNEX hal
  go_wp2_with fail
  generalize hwa : w12.alloc (.cells #[.int .i64 nx1, .string nx2] 53) = w12a at *
  clear hwa
  refine (HPRE.out w12a HD12a.out).mono ?_
  rintro e w13 ⟨rfl, hb13⟩
  have HD13 := Lib.hid (ext_trans HD12a.out hb13)
  have hal := below_new w13 #[.int .i64 pv1, .string pv2] 53
  have HP13 := Lib.hid (Bx.new w13 #[.int .i64 pv1, .string pv2] 53)
  have HC13 := Lib.hid ((HC12.out.step hb13).step hal)
  have HD13a := Lib.hid (ext_trans HD13.out hal)
  clear hb13 HPRE hal
  go_wp2_with fail
  generalize hwa : w13.alloc (.cells #[.int .i64 pv1, .string pv2] 53) = w13a at *
  clear hwa
  refine (HWIN.out w13a HD13a.out).mono ?_
  rintro e w14 ⟨vw, R, rfl, rfl, hvw, hb14⟩
  obtain ⟨wa, wc, rfl, -, -⟩ := hvw.shape
  have HVW := Lib.hid hvw
  have HD14 := Lib.hid (ext_trans HD13a.out hb14)
  have HC14 := Lib.hid (HC13.out.step hb14)
  have HP14 := Lib.hid (HP13.out.step hb14)
  have HX14 := Lib.hid (HX5.out.step HD14.out)
  clear hvw hb14 HWIN
  obtain ⟨p0, p1, p2, p3, p4, p5, p6, p7, p8⟩ := HX14.out.nine
  have u0 := HC14.out.1.cell (j := 0) rfl
  have u1 := HC14.out.1.cell (j := 1) rfl
  have v0 := HP14.out.1.cell (j := 0) rfl
  have v1 := HP14.out.1.cell (j := 1) rfl
  by_cases hn : 0 ≤ n ∧ n < (t.G.length : Int)
  rotate_left
  · obtain ⟨g1, g2, g3, g4, g5⟩ := src_out hn tm to_
    rw [← HKD.out] at g1
    rw [← HSV.out] at g2
    rw [← HNX.out] at g3
    rw [← HPV.out] at g4
    rw [← HWL.out] at g5
    obtain ⟨f1, f2⟩ := Prod.mk.inj g1
    obtain ⟨f3, f4⟩ := Prod.mk.inj f2
    obtain ⟨f5, f6⟩ := Prod.mk.inj g2
    obtain ⟨f7, f8⟩ := Prod.mk.inj g3
    obtain ⟨f9, f10⟩ := Prod.mk.inj f7
    obtain ⟨f11, f12⟩ := Prod.mk.inj g4
    obtain ⟨f13, f14⟩ := Prod.mk.inj f11
    obtain ⟨f15, f16⟩ := Prod.mk.inj g5
    subst f1 f3 f4 f5 f6 f8 f9 f10 f12 f13 f14 f15 f16
    clear g1 g2 g3 g4 g5 f2 f7 f11 HKD HSV HNX HPV HWL
    by_cases hn0 : n < 0
    · go_wp2_with fail
      go_ret
      exact ⟨rfl, ext_trans HB5.out HD14.out⟩
    · have hn1 : (t.G.length : Int) ≤ n := by omega
      go_wp2_with fail
      go_ret
      exact ⟨rfl, ext_trans HB5.out HD14.out⟩
  obtain ⟨j, rfl⟩ : ∃ j : Nat, n = (j : Int) := ⟨n.toNat, by omega⟩
  have hj : j < t.G.length := by omega
  have hn0 : (0 : Int) ≤ (j : Int) := hn.1
  have hn1 : (j : Int) < (t.G.length : Int) := hn.2
  have hmk : j < p.M.length := by rw [HT.out.len]; exact hj
  have hsg := (HT.out.below (ext_trans HB5.out HD14.out)).g
  rw [HE3.out, ← HT.out.len] at hsg
  obtain ⟨b, o, rfl, d0, d1, d2, hd⟩ := hsg.at hmk
  have hGj : p.M[j].1 = t.G[j] := by
    have : (p.M.map Prod.fst)[j]? = t.G[j]? := by rw [HT.out.m]
    rw [List.getElem?_map, List.getElem?_eq_getElem hmk, List.getElem?_eq_getElem hj] at this
    exact Option.some.inj this
  have hft := HSB.out.f _ (List.getElem_mem hj)
  obtain ⟨g1, g2, g3, g4, g5⟩ := src_in hj tm to_
  rw [← HKD.out] at g1
  rw [← HSV.out] at g2
  rw [← HNX.out] at g3
  rw [← HPV.out] at g4
  rw [← HWL.out] at g5
  rw [hGj] at d0 d1 hd
  generalize p.M[j].2 = xv at *
  generalize t.G[j] = x at *
  obtain ⟨xk, xn, xl⟩ := x
  dsimp only at d0 d1 hd hft g1 g2 g3 g4 g5
  obtain ⟨xa, xc, rfl, -, -⟩ := hd.shape
  obtain ⟨f1, f2⟩ := Prod.mk.inj g1
  obtain ⟨f3, f4⟩ := Prod.mk.inj f2
  subst f1 f3 f4
  have HXL := Lib.hid hd
  have HFT := Lib.hid hft
  have HSV2 := Lib.hid g2
  have HNX2 := Lib.hid g3
  have HPV2 := Lib.hid g4
  have HWL2 := Lib.hid g5
  have hen := HSB.out.e
  have hal := below_new w14 #[.int .i64 kd, .int .i64 kw, .slice xa xl.length xc] 45
  have HS15 := Lib.hid (Bx.new w14 #[.int .i64 kd, .int .i64 kw, .slice xa xl.length xc] 45)
  have HX15 := Lib.hid (HX14.out.step hal)
  have HC15 := Lib.hid (HC14.out.step hal)
  have HP15 := Lib.hid (HP14.out.step hal)
  have HVW15 := Lib.hid (HVW.out.below hal)
  have HXL15 := Lib.hid (HXL.out.below hal)
  have HD15 := Lib.hid (ext_trans HD14.out hal)
  clear g1 g2 g3 g4 g5 f2 hd hft hsg hGj hal HKD HSV HNX HPV HWL u0 u1 v0 v1
  go_upto_region 21 with fail
  generalize w14.alloc (.cells #[.int .i64 kd, .int .i64 kw, .slice xa xl.length xc] 45) = w15 at *
  clear p0 p1 p2 p3 p4 p5 p6 p7 p8 d0 d1 d2
  have s0 := HS15.out.1.cell (j := 0) rfl
  have s1 := HS15.out.1.cell (j := 1) rfl
  have s2 := HS15.out.1.cell (j := 2) rfl
  have t8 := HX15.out.1.cell (j := 8) rfl
  have hAT := fun W (hW : Below w15.heap.size w15 W) => sig_At kd kw _ xl tm W (HG.out.below (ext_trans HB5.out (ext_trans HD15.out hW))) (HXL15.out.below hW) HFT.out
  have hNT := fun W (hW : Below w15.heap.size w15 W) => sig_Next kd kw _ xl tm W (HG.out.below (ext_trans HB5.out (ext_trans HD15.out hW))) (HXL15.out.below hW) HFT.out
  have hPT := fun W (hW : Below w15.heap.size w15 W) => sig_Previous kd kw _ xl tm W (HG.out.below (ext_trans HB5.out (ext_trans HD15.out hW))) (HXL15.out.below hW) HFT.out
  have HAT := Lib.hid hAT
  have HNT := Lib.hid hNT
  have HPT := Lib.hid hPT
  clear hAT hNT hPT
  have hwen : IntKind.i64.wrap (t.en + 1) = t.en + 1 := IntWalk.i64_in _ (by omega)
  by_cases hA : 0 ≤ tm ∧ tm ≤ t.en
  · obtain ⟨hA1, hA2⟩ := hA
    have hA3 : ¬ tm < 0 := by omega
    have hA4 : -1 ≤ tm := by omega
    have hA5 : tm ≤ t.en + 1 := by omega
    have hs := HSV2.out
    rw [if_pos (by omega)] at hs
    have HS := Lib.hid hs
    clear hs
    go_wp2_with fail
    refine (HAT.out w15 (Below.refl _ _)).mono ?_
    rintro e wd ⟨rfl, hbd⟩
    rw [← HS.out]
    have HBD := Lib.hid hbd
    clear hbd HS
    have hal := below_new wd #[.int .i64 0, .string ⟨#[]⟩] 53
    have HE17 := Lib.hid (ext_trans HBD.out hal)
    have HR17 := Lib.hid (Bx.new wd #[.int .i64 0, .string ⟨#[]⟩] 53).1
    clear hal
    go_upto_region 29 with fail
    generalize wd.alloc (.cells #[.int .i64 0, .string ⟨#[]⟩] 53) = w17 at *
    clear s0 s1 s2 t8
    have s0 := (HS15.out.step HE17.out).1.cell (j := 0) rfl
    have s1 := (HS15.out.step HE17.out).1.cell (j := 1) rfl
    have s2 := (HS15.out.step HE17.out).1.cell (j := 2) rfl
    have t8 := (HX15.out.step HE17.out).1.cell (j := 8) rfl
    have z0 := HR17.out.cell (j := 0) rfl
    have z1 := HR17.out.cell (j := 1) rfl
    have y0 := HR17.out.free (j := 0) (by simp)
    have y1 := HR17.out.free (j := 1) (by simp)
    have hs := HNX2.out
    rw [if_pos (by omega)] at hs
    have HS := Lib.hid hs
    clear hs
    go_wp2_with fail
    refine (HNT.out w17 HE17.out).mono ?_
    rintro e w18 ⟨rfl, hb18⟩
    rw [← HS.out]
    have HK18 := Lib.hid (HR17.out.below hb18 (cell_lt z0))
    have HE18 := Lib.hid (ext_trans HE17.out hb18)
    clear hb18 HS s0 s1 s2 t8 z0 z1 y0 y1
    have z0 := HK18.out.cell (j := 0) rfl
    have z1 := HK18.out.cell (j := 1) rfl
    have y0 := HK18.out.free (j := 0) (by simp)
    have y1 := HK18.out.free (j := 1) (by simp)
    have hk := (HK18.out.set (j := 0) (by simp) (.int .i64 nx1)).set (j := 1) (by simp) (.string nx2)
    have he : Below w15.heap.size w15 ((w18.setCell ⟨wd.heap.size, 0, none⟩ (.int .i64 nx1)).setCell ⟨wd.heap.size, 1, none⟩ (.string nx2)) := (HE18.out.setCell HBD.out.size _).setCell HBD.out.size _
    have HR19 := Lib.hid hk
    have HE19 := Lib.hid he
    clear hk he
    go_upto_region 31 with fail
    generalize (w18.setCell ⟨wd.heap.size, 0, none⟩ (.int .i64 nx1)).setCell ⟨wd.heap.size, 1, none⟩ (.string nx2) = w19 at *
    clear z0 z1 y0 y1 HK18 HE18
    have z0 := HR19.out.cell (j := 0) rfl
    have z1 := HR19.out.cell (j := 1) rfl
    have y0 := HR19.out.free (j := 0) (by simp)
    have y1 := HR19.out.free (j := 1) (by simp)
    have c0 := (HC15.out.step HE19.out).1.cell (j := 0) rfl
    have c1 := (HC15.out.step HE19.out).1.cell (j := 1) rfl
    have s0 := (HS15.out.step HE19.out).1.cell (j := 0) rfl
    have s1 := (HS15.out.step HE19.out).1.cell (j := 1) rfl
    have s2 := (HS15.out.step HE19.out).1.cell (j := 2) rfl
    have t8 := (HX15.out.step HE19.out).1.cell (j := 8) rfl
    have hk := (HR19.out.set (j := 0) (by simp) (.int .i64 0)).set (j := 1) (by simp) (.string ⟨#[]⟩)
    have he : Below w15.heap.size w15 ((w19.setCell ⟨wd.heap.size, 0, none⟩ (.int .i64 0)).setCell ⟨wd.heap.size, 1, none⟩ (.string ⟨#[]⟩)) := (HE19.out.setCell HBD.out.size _).setCell HBD.out.size _
    have HR20 := Lib.hid hk
    have HE20 := Lib.hid he
    clear hk he
    go_upto_region 34 with fail
    generalize (w19.setCell ⟨wd.heap.size, 0, none⟩ (.int .i64 0)).setCell ⟨wd.heap.size, 1, none⟩ (.string ⟨#[]⟩) = w20 at *
    clear z0 z1 y0 y1 c0 c1 s0 s1 s2 t8
    have z0 := HR20.out.cell (j := 0) rfl
    have z1 := HR20.out.cell (j := 1) rfl
    have y0 := HR20.out.free (j := 0) (by simp)
    have y1 := HR20.out.free (j := 1) (by simp)
    have s0 := (HS15.out.step HE20.out).1.cell (j := 0) rfl
    have s1 := (HS15.out.step HE20.out).1.cell (j := 1) rfl
    have s2 := (HS15.out.step HE20.out).1.cell (j := 2) rfl
    have t8 := (HX15.out.step HE20.out).1.cell (j := 8) rfl
    have hs := HPV2.out
    rw [if_pos (by omega)] at hs
    have HS := Lib.hid hs
    clear hs
    go_wp2_with fail
    refine (HPT.out w20 HE20.out).mono ?_
    rintro e w21 ⟨rfl, hb18⟩
    rw [← HS.out]
    have HK18 := Lib.hid (HR20.out.below hb18 (cell_lt z0))
    have HE18 := Lib.hid (ext_trans HE20.out hb18)
    clear hb18 HS s0 s1 s2 t8 z0 z1 y0 y1
    have z0 := HK18.out.cell (j := 0) rfl
    have z1 := HK18.out.cell (j := 1) rfl
    have y0 := HK18.out.free (j := 0) (by simp)
    have y1 := HK18.out.free (j := 1) (by simp)
    have hk := (HK18.out.set (j := 0) (by simp) (.int .i64 pv1)).set (j := 1) (by simp) (.string pv2)
    have he : Below w15.heap.size w15 ((w21.setCell ⟨wd.heap.size, 0, none⟩ (.int .i64 pv1)).setCell ⟨wd.heap.size, 1, none⟩ (.string pv2)) := (HE18.out.setCell HBD.out.size _).setCell HBD.out.size _
    have HR22 := Lib.hid hk
    have HE22 := Lib.hid he
    clear hk he
    go_upto_region 36 with fail
    generalize (w21.setCell ⟨wd.heap.size, 0, none⟩ (.int .i64 pv1)).setCell ⟨wd.heap.size, 1, none⟩ (.string pv2) = w22 at *
    clear z0 z1 y0 y1 HK18 HE18
    have z0 := HR22.out.cell (j := 0) rfl
    have z1 := HR22.out.cell (j := 1) rfl
    have y0 := HR22.out.free (j := 0) (by simp)
    have y1 := HR22.out.free (j := 1) (by simp)
    have c0 := (HP15.out.step HE22.out).1.cell (j := 0) rfl
    have c1 := (HP15.out.step HE22.out).1.cell (j := 1) rfl
    have s0 := (HS15.out.step HE22.out).1.cell (j := 0) rfl
    have s1 := (HS15.out.step HE22.out).1.cell (j := 1) rfl
    have s2 := (HS15.out.step HE22.out).1.cell (j := 2) rfl
    have t8 := (HX15.out.step HE22.out).1.cell (j := 8) rfl
    by_cases hto : to_ < tm
    · skip
      have hs := HWL2.out
      rw [if_neg (by omega)] at hs
      obtain ⟨h4, h5⟩ := Prod.mk.inj hs
      subst h4 h5
      clear hs
      go_wp2_with fail
      go_ret
      exact ⟨rfl, ext_trans HB5.out (ext_trans HD15.out HE22.out)⟩
    · by_cases htn : t.en < to_
      · skip
        have hs := HWL2.out
        rw [if_neg (by omega)] at hs
        obtain ⟨h4, h5⟩ := Prod.mk.inj hs
        subst h4 h5
        clear hs
        go_wp2_with fail
        go_ret
        exact ⟨rfl, ext_trans HB5.out (ext_trans HD15.out HE22.out)⟩
      · skip
        have hs := HWL2.out
        rw [if_pos (by omega)] at hs
        obtain ⟨h4, h5⟩ := Prod.mk.inj hs
        subst h5
        have HWS := Lib.hid h4
        have HWC := Lib.hid (sig_Window kd kw _ xl tm to_ w22 (HG.out.below (ext_trans HB5.out (ext_trans HD15.out HE22.out))) (HXL15.out.below HE22.out) HFT.out (by omega) (by omega))
        clear hs h4
        go_wp2_with fail
        refine HWC.out.mono ?_
        rintro e w23 ⟨v23, rfl, hs23, hb23⟩
        rw [← HWS.out] at hs23
        obtain ⟨qa, qc, rfl, -, -⟩ := hs23.shape
        have HE23 := Lib.hid (ext_trans HE22.out hb23)
        have HSC := Lib.hid (ref_SameChanges _ _ wl wl w23 (HVW15.out.below HE23.out) hs23)
        rw [sameC_refl] at HSC
        clear hs23 hb23 HWC
        go_wp2_with fail
        refine HSC.out.mono ?_
        rintro e w24 ⟨rfl, hb24⟩
        have HE24 := Lib.hid (ext_trans HE23.out hb24)
        clear hb24
        go_wp2_with fail
        go_ret
        exact ⟨rfl, ext_trans HB5.out (ext_trans HD15.out HE24.out)⟩
  by_cases hB : tm < 0
  · have hB0 : ¬ 0 ≤ tm := by omega
    by_cases hD : tm = -1
    · have hD1 : -1 ≤ tm := by omega
      have hD2 : tm ≤ t.en := by omega
      have HD' := Lib.hid hD
      clear hD hA
      have hs := HSV2.out
      rw [if_neg (by omega)] at hs
      obtain ⟨h4, h5⟩ := Prod.mk.inj hs
      subst h4 h5
      clear hs
      have HBD := Lib.hid (Below.refl w15.heap.size w15)
      have hal := below_new w15 #[.int .i64 0, .string ⟨#[]⟩] 53
      have HE17 := Lib.hid (ext_trans HBD.out hal)
      have HR17 := Lib.hid (Bx.new w15 #[.int .i64 0, .string ⟨#[]⟩] 53).1
      clear hal
      go_upto_region 29 with fail
      generalize w15.alloc (.cells #[.int .i64 0, .string ⟨#[]⟩] 53) = w17 at *
      clear s0 s1 s2 t8
      have s0 := (HS15.out.step HE17.out).1.cell (j := 0) rfl
      have s1 := (HS15.out.step HE17.out).1.cell (j := 1) rfl
      have s2 := (HS15.out.step HE17.out).1.cell (j := 2) rfl
      have t8 := (HX15.out.step HE17.out).1.cell (j := 8) rfl
      have z0 := HR17.out.cell (j := 0) rfl
      have z1 := HR17.out.cell (j := 1) rfl
      have y0 := HR17.out.free (j := 0) (by simp)
      have y1 := HR17.out.free (j := 1) (by simp)
      have hs := HNX2.out
      rw [if_pos (by omega)] at hs
      have HS := Lib.hid hs
      clear hs
      go_wp2_with fail
      refine (HNT.out w17 HE17.out).mono ?_
      rintro e w18 ⟨rfl, hb18⟩
      rw [← HS.out]
      have HK18 := Lib.hid (HR17.out.below hb18 (cell_lt z0))
      have HE18 := Lib.hid (ext_trans HE17.out hb18)
      clear hb18 HS s0 s1 s2 t8 z0 z1 y0 y1
      have z0 := HK18.out.cell (j := 0) rfl
      have z1 := HK18.out.cell (j := 1) rfl
      have y0 := HK18.out.free (j := 0) (by simp)
      have y1 := HK18.out.free (j := 1) (by simp)
      have hk := (HK18.out.set (j := 0) (by simp) (.int .i64 nx1)).set (j := 1) (by simp) (.string nx2)
      have he : Below w15.heap.size w15 ((w18.setCell ⟨w15.heap.size, 0, none⟩ (.int .i64 nx1)).setCell ⟨w15.heap.size, 1, none⟩ (.string nx2)) := (HE18.out.setCell HBD.out.size _).setCell HBD.out.size _
      have HR19 := Lib.hid hk
      have HE19 := Lib.hid he
      clear hk he
      go_upto_region 31 with fail
      generalize (w18.setCell ⟨w15.heap.size, 0, none⟩ (.int .i64 nx1)).setCell ⟨w15.heap.size, 1, none⟩ (.string nx2) = w19 at *
      clear z0 z1 y0 y1 HK18 HE18
      have z0 := HR19.out.cell (j := 0) rfl
      have z1 := HR19.out.cell (j := 1) rfl
      have y0 := HR19.out.free (j := 0) (by simp)
      have y1 := HR19.out.free (j := 1) (by simp)
      have c0 := (HC15.out.step HE19.out).1.cell (j := 0) rfl
      have c1 := (HC15.out.step HE19.out).1.cell (j := 1) rfl
      have s0 := (HS15.out.step HE19.out).1.cell (j := 0) rfl
      have s1 := (HS15.out.step HE19.out).1.cell (j := 1) rfl
      have s2 := (HS15.out.step HE19.out).1.cell (j := 2) rfl
      have t8 := (HX15.out.step HE19.out).1.cell (j := 8) rfl
      have hk := (HR19.out.set (j := 0) (by simp) (.int .i64 0)).set (j := 1) (by simp) (.string ⟨#[]⟩)
      have he : Below w15.heap.size w15 ((w19.setCell ⟨w15.heap.size, 0, none⟩ (.int .i64 0)).setCell ⟨w15.heap.size, 1, none⟩ (.string ⟨#[]⟩)) := (HE19.out.setCell HBD.out.size _).setCell HBD.out.size _
      have HR20 := Lib.hid hk
      have HE20 := Lib.hid he
      clear hk he
      go_upto_region 34 with fail
      generalize (w19.setCell ⟨w15.heap.size, 0, none⟩ (.int .i64 0)).setCell ⟨w15.heap.size, 1, none⟩ (.string ⟨#[]⟩) = w20 at *
      clear z0 z1 y0 y1 c0 c1 s0 s1 s2 t8
      have z0 := HR20.out.cell (j := 0) rfl
      have z1 := HR20.out.cell (j := 1) rfl
      have y0 := HR20.out.free (j := 0) (by simp)
      have y1 := HR20.out.free (j := 1) (by simp)
      have s0 := (HS15.out.step HE20.out).1.cell (j := 0) rfl
      have s1 := (HS15.out.step HE20.out).1.cell (j := 1) rfl
      have s2 := (HS15.out.step HE20.out).1.cell (j := 2) rfl
      have t8 := (HX15.out.step HE20.out).1.cell (j := 8) rfl
      have hs := HPV2.out
      rw [if_neg (by omega)] at hs
      obtain ⟨h4, h5⟩ := Prod.mk.inj hs
      obtain ⟨h6, h7⟩ := Prod.mk.inj h4
      subst h5 h6 h7
      clear hs h4
      have HR22 := HR20
      have HE22 := HE20
      have c0 := (HP15.out.step HE22.out).1.cell (j := 0) rfl
      have c1 := (HP15.out.step HE22.out).1.cell (j := 1) rfl
      go_upto_region 36 with fail
      have hs := HWL2.out
      rw [if_neg (by omega)] at hs
      obtain ⟨h4, h5⟩ := Prod.mk.inj hs
      subst h4 h5
      clear hs
      go_wp2_with fail
      go_ret
      exact ⟨rfl, ext_trans HB5.out (ext_trans HD15.out HE22.out)⟩
    · have hD1 : ¬ -1 ≤ tm := by omega
      clear hD hA
      have hs := HSV2.out
      rw [if_neg (by omega)] at hs
      obtain ⟨h4, h5⟩ := Prod.mk.inj hs
      subst h4 h5
      clear hs
      have HBD := Lib.hid (Below.refl w15.heap.size w15)
      have hal := below_new w15 #[.int .i64 0, .string ⟨#[]⟩] 53
      have HE17 := Lib.hid (ext_trans HBD.out hal)
      have HR17 := Lib.hid (Bx.new w15 #[.int .i64 0, .string ⟨#[]⟩] 53).1
      clear hal
      go_upto_region 29 with fail
      generalize w15.alloc (.cells #[.int .i64 0, .string ⟨#[]⟩] 53) = w17 at *
      clear s0 s1 s2 t8
      have s0 := (HS15.out.step HE17.out).1.cell (j := 0) rfl
      have s1 := (HS15.out.step HE17.out).1.cell (j := 1) rfl
      have s2 := (HS15.out.step HE17.out).1.cell (j := 2) rfl
      have t8 := (HX15.out.step HE17.out).1.cell (j := 8) rfl
      have z0 := HR17.out.cell (j := 0) rfl
      have z1 := HR17.out.cell (j := 1) rfl
      have y0 := HR17.out.free (j := 0) (by simp)
      have y1 := HR17.out.free (j := 1) (by simp)
      have hs := HNX2.out
      rw [if_neg (by omega)] at hs
      obtain ⟨h4, h5⟩ := Prod.mk.inj hs
      obtain ⟨h6, h7⟩ := Prod.mk.inj h4
      subst h5 h6 h7
      clear hs h4
      have HR19 := HR17
      have HE19 := HE17
      have c0 := (HC15.out.step HE19.out).1.cell (j := 0) rfl
      have c1 := (HC15.out.step HE19.out).1.cell (j := 1) rfl
      have hk := (HR19.out.set (j := 0) (by simp) (.int .i64 0)).set (j := 1) (by simp) (.string ⟨#[]⟩)
      have he : Below w15.heap.size w15 ((w17.setCell ⟨w15.heap.size, 0, none⟩ (.int .i64 0)).setCell ⟨w15.heap.size, 1, none⟩ (.string ⟨#[]⟩)) := (HE19.out.setCell HBD.out.size _).setCell HBD.out.size _
      have HR20 := Lib.hid hk
      have HE20 := Lib.hid he
      clear hk he
      go_upto_region 34 with fail
      generalize (w17.setCell ⟨w15.heap.size, 0, none⟩ (.int .i64 0)).setCell ⟨w15.heap.size, 1, none⟩ (.string ⟨#[]⟩) = w20 at *
      clear z0 z1 y0 y1 c0 c1 s0 s1 s2 t8
      have z0 := HR20.out.cell (j := 0) rfl
      have z1 := HR20.out.cell (j := 1) rfl
      have y0 := HR20.out.free (j := 0) (by simp)
      have y1 := HR20.out.free (j := 1) (by simp)
      have s0 := (HS15.out.step HE20.out).1.cell (j := 0) rfl
      have s1 := (HS15.out.step HE20.out).1.cell (j := 1) rfl
      have s2 := (HS15.out.step HE20.out).1.cell (j := 2) rfl
      have t8 := (HX15.out.step HE20.out).1.cell (j := 8) rfl
      have hs := HPV2.out
      rw [if_neg (by omega)] at hs
      obtain ⟨h4, h5⟩ := Prod.mk.inj hs
      obtain ⟨h6, h7⟩ := Prod.mk.inj h4
      subst h5 h6 h7
      clear hs h4
      have HR22 := HR20
      have HE22 := HE20
      have c0 := (HP15.out.step HE22.out).1.cell (j := 0) rfl
      have c1 := (HP15.out.step HE22.out).1.cell (j := 1) rfl
      go_upto_region 36 with fail
      have hs := HWL2.out
      rw [if_neg (by omega)] at hs
      obtain ⟨h4, h5⟩ := Prod.mk.inj hs
      subst h4 h5
      clear hs
      go_wp2_with fail
      go_ret
      exact ⟨rfl, ext_trans HB5.out (ext_trans HD15.out HE22.out)⟩
  · have hB0 : 0 ≤ tm := by omega
    have hB1 : -1 ≤ tm := by omega
    have hB2 : ¬ tm ≤ t.en := by omega
    by_cases hC : tm ≤ t.en + 1
    · clear hA
      have hs := HSV2.out
      rw [if_neg (by omega)] at hs
      obtain ⟨h4, h5⟩ := Prod.mk.inj hs
      subst h4 h5
      clear hs
      have HBD := Lib.hid (Below.refl w15.heap.size w15)
      have hal := below_new w15 #[.int .i64 0, .string ⟨#[]⟩] 53
      have HE17 := Lib.hid (ext_trans HBD.out hal)
      have HR17 := Lib.hid (Bx.new w15 #[.int .i64 0, .string ⟨#[]⟩] 53).1
      clear hal
      go_upto_region 29 with fail
      generalize w15.alloc (.cells #[.int .i64 0, .string ⟨#[]⟩] 53) = w17 at *
      clear s0 s1 s2 t8
      have s0 := (HS15.out.step HE17.out).1.cell (j := 0) rfl
      have s1 := (HS15.out.step HE17.out).1.cell (j := 1) rfl
      have s2 := (HS15.out.step HE17.out).1.cell (j := 2) rfl
      have t8 := (HX15.out.step HE17.out).1.cell (j := 8) rfl
      have z0 := HR17.out.cell (j := 0) rfl
      have z1 := HR17.out.cell (j := 1) rfl
      have y0 := HR17.out.free (j := 0) (by simp)
      have y1 := HR17.out.free (j := 1) (by simp)
      have hs := HNX2.out
      rw [if_neg (by omega)] at hs
      obtain ⟨h4, h5⟩ := Prod.mk.inj hs
      obtain ⟨h6, h7⟩ := Prod.mk.inj h4
      subst h5 h6 h7
      clear hs h4
      have HR19 := HR17
      have HE19 := HE17
      have c0 := (HC15.out.step HE19.out).1.cell (j := 0) rfl
      have c1 := (HC15.out.step HE19.out).1.cell (j := 1) rfl
      have hk := (HR19.out.set (j := 0) (by simp) (.int .i64 0)).set (j := 1) (by simp) (.string ⟨#[]⟩)
      have he : Below w15.heap.size w15 ((w17.setCell ⟨w15.heap.size, 0, none⟩ (.int .i64 0)).setCell ⟨w15.heap.size, 1, none⟩ (.string ⟨#[]⟩)) := (HE19.out.setCell HBD.out.size _).setCell HBD.out.size _
      have HR20 := Lib.hid hk
      have HE20 := Lib.hid he
      clear hk he
      go_upto_region 34 with fail
      generalize (w17.setCell ⟨w15.heap.size, 0, none⟩ (.int .i64 0)).setCell ⟨w15.heap.size, 1, none⟩ (.string ⟨#[]⟩) = w20 at *
      clear z0 z1 y0 y1 c0 c1 s0 s1 s2 t8
      have z0 := HR20.out.cell (j := 0) rfl
      have z1 := HR20.out.cell (j := 1) rfl
      have y0 := HR20.out.free (j := 0) (by simp)
      have y1 := HR20.out.free (j := 1) (by simp)
      have s0 := (HS15.out.step HE20.out).1.cell (j := 0) rfl
      have s1 := (HS15.out.step HE20.out).1.cell (j := 1) rfl
      have s2 := (HS15.out.step HE20.out).1.cell (j := 2) rfl
      have t8 := (HX15.out.step HE20.out).1.cell (j := 8) rfl
      have hs := HPV2.out
      rw [if_pos (by omega)] at hs
      have HS := Lib.hid hs
      clear hs
      go_wp2_with fail
      refine (HPT.out w20 HE20.out).mono ?_
      rintro e w21 ⟨rfl, hb18⟩
      rw [← HS.out]
      have HK18 := Lib.hid (HR20.out.below hb18 (cell_lt z0))
      have HE18 := Lib.hid (ext_trans HE20.out hb18)
      clear hb18 HS s0 s1 s2 t8 z0 z1 y0 y1
      have z0 := HK18.out.cell (j := 0) rfl
      have z1 := HK18.out.cell (j := 1) rfl
      have y0 := HK18.out.free (j := 0) (by simp)
      have y1 := HK18.out.free (j := 1) (by simp)
      have hk := (HK18.out.set (j := 0) (by simp) (.int .i64 pv1)).set (j := 1) (by simp) (.string pv2)
      have he : Below w15.heap.size w15 ((w21.setCell ⟨w15.heap.size, 0, none⟩ (.int .i64 pv1)).setCell ⟨w15.heap.size, 1, none⟩ (.string pv2)) := (HE18.out.setCell HBD.out.size _).setCell HBD.out.size _
      have HR22 := Lib.hid hk
      have HE22 := Lib.hid he
      clear hk he
      go_upto_region 36 with fail
      generalize (w21.setCell ⟨w15.heap.size, 0, none⟩ (.int .i64 pv1)).setCell ⟨w15.heap.size, 1, none⟩ (.string pv2) = w22 at *
      clear z0 z1 y0 y1 HK18 HE18
      have z0 := HR22.out.cell (j := 0) rfl
      have z1 := HR22.out.cell (j := 1) rfl
      have y0 := HR22.out.free (j := 0) (by simp)
      have y1 := HR22.out.free (j := 1) (by simp)
      have c0 := (HP15.out.step HE22.out).1.cell (j := 0) rfl
      have c1 := (HP15.out.step HE22.out).1.cell (j := 1) rfl
      have s0 := (HS15.out.step HE22.out).1.cell (j := 0) rfl
      have s1 := (HS15.out.step HE22.out).1.cell (j := 1) rfl
      have s2 := (HS15.out.step HE22.out).1.cell (j := 2) rfl
      have t8 := (HX15.out.step HE22.out).1.cell (j := 8) rfl
      by_cases hto : to_ < tm
      · skip
        have hs := HWL2.out
        rw [if_neg (by omega)] at hs
        obtain ⟨h4, h5⟩ := Prod.mk.inj hs
        subst h4 h5
        clear hs
        go_wp2_with fail
        go_ret
        exact ⟨rfl, ext_trans HB5.out (ext_trans HD15.out HE22.out)⟩
      · have htn : t.en < to_ := by omega
        have hs := HWL2.out
        rw [if_neg (by omega)] at hs
        obtain ⟨h4, h5⟩ := Prod.mk.inj hs
        subst h4 h5
        clear hs
        go_wp2_with fail
        go_ret
        exact ⟨rfl, ext_trans HB5.out (ext_trans HD15.out HE22.out)⟩
    · clear hA
      have hs := HSV2.out
      rw [if_neg (by omega)] at hs
      obtain ⟨h4, h5⟩ := Prod.mk.inj hs
      subst h4 h5
      clear hs
      have HBD := Lib.hid (Below.refl w15.heap.size w15)
      have hal := below_new w15 #[.int .i64 0, .string ⟨#[]⟩] 53
      have HE17 := Lib.hid (ext_trans HBD.out hal)
      have HR17 := Lib.hid (Bx.new w15 #[.int .i64 0, .string ⟨#[]⟩] 53).1
      clear hal
      go_upto_region 29 with fail
      generalize w15.alloc (.cells #[.int .i64 0, .string ⟨#[]⟩] 53) = w17 at *
      clear s0 s1 s2 t8
      have s0 := (HS15.out.step HE17.out).1.cell (j := 0) rfl
      have s1 := (HS15.out.step HE17.out).1.cell (j := 1) rfl
      have s2 := (HS15.out.step HE17.out).1.cell (j := 2) rfl
      have t8 := (HX15.out.step HE17.out).1.cell (j := 8) rfl
      have z0 := HR17.out.cell (j := 0) rfl
      have z1 := HR17.out.cell (j := 1) rfl
      have y0 := HR17.out.free (j := 0) (by simp)
      have y1 := HR17.out.free (j := 1) (by simp)
      have hs := HNX2.out
      rw [if_neg (by omega)] at hs
      obtain ⟨h4, h5⟩ := Prod.mk.inj hs
      obtain ⟨h6, h7⟩ := Prod.mk.inj h4
      subst h5 h6 h7
      clear hs h4
      have HR19 := HR17
      have HE19 := HE17
      have c0 := (HC15.out.step HE19.out).1.cell (j := 0) rfl
      have c1 := (HC15.out.step HE19.out).1.cell (j := 1) rfl
      have hk := (HR19.out.set (j := 0) (by simp) (.int .i64 0)).set (j := 1) (by simp) (.string ⟨#[]⟩)
      have he : Below w15.heap.size w15 ((w17.setCell ⟨w15.heap.size, 0, none⟩ (.int .i64 0)).setCell ⟨w15.heap.size, 1, none⟩ (.string ⟨#[]⟩)) := (HE19.out.setCell HBD.out.size _).setCell HBD.out.size _
      have HR20 := Lib.hid hk
      have HE20 := Lib.hid he
      clear hk he
      go_upto_region 34 with fail
      generalize (w17.setCell ⟨w15.heap.size, 0, none⟩ (.int .i64 0)).setCell ⟨w15.heap.size, 1, none⟩ (.string ⟨#[]⟩) = w20 at *
      clear z0 z1 y0 y1 c0 c1 s0 s1 s2 t8
      have z0 := HR20.out.cell (j := 0) rfl
      have z1 := HR20.out.cell (j := 1) rfl
      have y0 := HR20.out.free (j := 0) (by simp)
      have y1 := HR20.out.free (j := 1) (by simp)
      have s0 := (HS15.out.step HE20.out).1.cell (j := 0) rfl
      have s1 := (HS15.out.step HE20.out).1.cell (j := 1) rfl
      have s2 := (HS15.out.step HE20.out).1.cell (j := 2) rfl
      have t8 := (HX15.out.step HE20.out).1.cell (j := 8) rfl
      have hs := HPV2.out
      rw [if_neg (by omega)] at hs
      obtain ⟨h4, h5⟩ := Prod.mk.inj hs
      obtain ⟨h6, h7⟩ := Prod.mk.inj h4
      subst h5 h6 h7
      clear hs h4
      have HR22 := HR20
      have HE22 := HE20
      have c0 := (HP15.out.step HE22.out).1.cell (j := 0) rfl
      have c1 := (HP15.out.step HE22.out).1.cell (j := 1) rfl
      by_cases hto : to_ < tm
      · skip
        have hs := HWL2.out
        rw [if_neg (by omega)] at hs
        obtain ⟨h4, h5⟩ := Prod.mk.inj hs
        subst h4 h5
        clear hs
        go_wp2_with fail
        go_ret
        exact ⟨rfl, ext_trans HB5.out (ext_trans HD15.out HE22.out)⟩
      · have htn : t.en < to_ := by omega
        have hs := HWL2.out
        rw [if_neg (by omega)] at hs
        obtain ⟨h4, h5⟩ := Prod.mk.inj hs
        subst h4 h5
        clear hs
        go_wp2_with fail
        go_ret
        exact ⟨rfl, ext_trans HB5.out (ext_trans HD15.out HE22.out)⟩
end Go.Proofs.YtbiadennhnokhaaGreatDoor
