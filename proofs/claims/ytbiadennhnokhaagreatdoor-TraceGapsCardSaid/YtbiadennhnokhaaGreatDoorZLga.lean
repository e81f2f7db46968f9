/- law23.TraceGaps. -/
import Derived.Test.YtbiadennhnokhaaGreatDoorZ40
import Derived.Handy
import Derived.BigQuiet
import Derived.Deep.RegionHeld3
import Derived.Deep.Cut
namespace Go.Proofs.YtbiadennhnokhaaGreatDoor
open Go.RowKit
set_option linter.unusedSimpArgs false

set_option maxHeartbeats 3200000 in
set_option maxRecDepth 100000 in
theorem law_TraceGaps (t : Tr) (p : TP) (tm : Int) (w : World) (ht : TrM w t p) (hi : InT t) (hg : Glob w) (hm : Glm w) :
    Calls Tryz.prog 6 #[p.v t, .int .i64 tm] w fun e w' => e = .returned (.bool true) ∧ Below w.heap.size w w' := by
  obtain ⟨a1, k1, a2, k2, a3, k3, a4, k4, e, -⟩ := ht.open
  have HT := Lib.hid ht
  have HI := Lib.hid hi
  have HG := Lib.hid hg
  have HM := Lib.hid hm
  have HE := Lib.hid e
  have HB1 := Lib.hid (below_new w (boxT t a1 a2 a3 a4 k1 k2 k3 k4) 27)
  have HX1 := Lib.hid (Bx.new w (boxT t a1 a2 a3 a4 k1 k2 k3 k4) 27)
  rw [e]
  clear ht hi hg hm e
  go_enter Tryz.func6, Tryz.ntmps6
  go_wp2_with fail
  generalize w.alloc (.cells (boxT t a1 a2 a3 a4 k1 k2 k3 k4) 27) = w1 at *
  refine (law_awake23 w1 (HG.out.below HB1.out) (HM.out.below HB1.out)).mono ?_
  rintro e w2 ⟨rfl, hb2⟩
  have HB2 := Lib.hid (ext_trans HB1.out hb2)
  have HX2 := Lib.hid (HX1.out.step hb2)
  obtain ⟨p0, p1, p2, p3, p4, p5, p6, p7, p8⟩ := HX2.out.nine
  have hfw := rf_Few23 t p 60 w2 (HT.out.below HB2.out) (by decide) ⟨by have := HI.out.tx; omega, by have := HI.out.tx; omega, by have := HI.out.tx; omega⟩
  rw [HE.out] at hfw
  have HFW := Lib.hid hfw
  clear hb2 hfw
  rcases Bool.eq_false_or_eq_true (fewT t 60) with hfew | hfew
  rotate_left
  · rw [hfew] at HFW
    clear hfew
    go_wp2_with fail
    refine HFW.out.mono ?_
    rintro e w3 ⟨rfl, hb3⟩
    have HB3 := Lib.hid (ext_trans HB2.out hb3)
    clear hb3
    go_wp2_with fail
    go_ret
    exact ⟨rfl, HB3.out⟩
  have HV := Lib.hid (few_fit (by decide) (by decide) hfew (fun x hx => (HI.out.v x hx).2.2.2.1) (fun s hs c hc => ((HI.out.g s hs).2.2 c hc).1))
  rw [hfew] at HFW
  clear hfew
  go_wp2_with fail
  refine HFW.out.mono ?_
  rintro e w3 ⟨rfl, hb3⟩
  have HB3 := Lib.hid (ext_trans HB2.out hb3)
  have HX3 := Lib.hid (HX2.out.step hb3)
  clear p0 p1 p2 p3 p4 p5 p6 p7 p8 hb3
  have hbd := tr_Build t p w3 (HT.out.below HB3.out) HV.out.fb (HG.out.below HB3.out) (HM.out.below HB3.out) HV.out.sg
  rw [HE.out] at hbd
  obtain ⟨p0, p1, p2, p3, p4, p5, p6, p7, p8⟩ := HX3.out.nine
  obtain ⟨⟨a, c⟩, hB⟩ : ∃ r, r = buildF t := ⟨_, rfl⟩
  rw [← hB] at hbd
  dsimp only at hbd
  have HBD := Lib.hid hbd
  have HBF := Lib.hid hB
  clear hbd hB HFW
  by_cases hc : c = 0
  rotate_left
  · go_wp2_with fail
    refine HBD.out.mono ?_
    rintro e w4 ⟨q, rfl, hq, hb4⟩
    obtain ⟨x1, y1, x2, y2, x3, y3, x4, y4, e, -⟩ := hq.open
    rw [e]
    have HB4 := Lib.hid (ext_trans HB3.out hb4)
    have hal := below_new w4 (boxT a x1 x2 x3 x4 y1 y2 y3 y4) 27
    have HB5 := Lib.hid (ext_trans HB4.out hal)
    have hcb : (c != 0) = true := by rw [bne_iff_ne]; exact hc
    clear e hq hb4 hal HBD p0 p1 p2 p3 p4 p5 p6 p7 p8 hc
    go_wp2_with fail
    go_ret
    exact ⟨rfl, HB5.out⟩
  subst hc
  go_wp2_with fail
  refine HBD.out.mono ?_
  rintro e w4 ⟨q, rfl, hq, hb4⟩
  obtain ⟨x1, y1, x2, y2, x3, y3, x4, y4, e, -, f2, f3, f4, -⟩ := hq.open
  rw [e]
  have HB4 := Lib.hid (ext_trans HB3.out hb4)
  have HX4 := Lib.hid (HX3.out.step hb4)
  have hal := below_new w4 (boxT a x1 x2 x3 x4 y1 y2 y3 y4) 27
  have HB5 := Lib.hid (ext_trans HB4.out hal)
  have HX5 := Lib.hid (HX4.out.step hal)
  have HQ5 := Lib.hid (hq.below hal)
  have HF2 := Lib.hid f2
  have HF3 := Lib.hid f3
  have HF4 := Lib.hid f4
  have HY5 := Lib.hid (Bx.new w4 (boxT a x1 x2 x3 x4 y1 y2 y3 y4) 27)
  clear e hq hb4 hal HBD p0 p1 p2 p3 p4 p5 p6 p7 p8 f2 f3 f4
  go_upto_region 6 with fail
  generalize w4.alloc (.cells (boxT a x1 x2 x3 x4 y1 y2 y3 y4) 27) = w5 at *
  obtain ⟨q0, q1, q2, q3, q4, q5, q6, q7, q8⟩ := HY5.out.nine
  obtain ⟨p0, p1, p2, p3, p4, p5, p6, p7, p8⟩ := HX5.out.nine
  by_cases h0 : tm < 0
  · go_wp2_with fail
    go_ret
    exact ⟨rfl, HB5.out⟩
  by_cases h1 : a.en < tm
  · go_wp2_with fail
    go_ret
    exact ⟨rfl, HB5.out⟩
  have h0' : 0 ≤ tm := by omega
  have h1' : tm ≤ a.en := by omega
  have HGV := Lib.hid (fun (hS : t.S = []) (v u : Vr) (hv : v ∈ t.V) (hw : u ∈ a.V) (en : v.nm = u.nm) (er : v.rg = u.rg) (em : v.mb = u.mb) (el : v.lb = u.lb) => gap_val HBF.out.symm h0' h1' hS hv hw en er em el)
  obtain ⟨hte1, hte2⟩ : (∃ s, p.vv = s) ∧ True := ⟨⟨_, rfl⟩, trivial⟩
  have hpe := HE.out
  unfold TP.v at hpe
  injection hpe with hpe
  simp at hpe
  obtain ⟨-, e2, e3, e4⟩ := hpe
  have HVT := Lib.hid (HT.out.below HB5.out)
  have hvt := HVT.out.v
  rw [e2] at hvt
  have HVS := Lib.hid hvt
  have hva := HQ5.out.v
  rw [HF2.out] at hva
  have HVA := Lib.hid hva
  have hlv := HV.out.ft.2.1
  have HLA := Lib.hid (valid_fit (build_again HBF.out.symm))
  have hla := HLA.out.ft.2.1
  clear hvt hva hte1 hte2
  go_wp2_with fail
  clear h0 h1
  go_loopw [43] (fun i wr => ∃ k : Nat, k ≤ t.V.length ∧ i = .int .i64 k ∧ Below w5.heap.size w5 wr) (fun i _ => t.V.length - (intOf i).toNat)
  case atStart => exact ⟨0, Nat.zero_le _, rfl, Below.refl _ _⟩
  case round =>
    obtain ⟨k, hk, rfl, hb⟩ := hrel
    have HB6 := Lib.hid hb
    clear hb p0 p1 p2 p3 p4 p5 p6 p7 p8 q0 q1 q2 q3 q4 q5 q6 q7 q8
    obtain ⟨wo, rfl⟩ : ∃ wo : World, wo = wr := ⟨_, rfl⟩
    by_cases hkl : k < t.V.length
    · obtain ⟨b, o, rfl, hcell⟩ := (HVS.out.below HB6.out).vrs hkl
      have HMV := Lib.hid (List.getElem_mem hkl)
      generalize t.V[k] = x at hcell HMV
      obtain ⟨nm, ty, sc, sg, rg, mb, lb⟩ := x
      have d0 : wo.cell? ⟨b, o + k * 7, none⟩ = some (.string (bsB nm)) := hcell 0 _ rfl
      have d1 : wo.cell? ⟨b, o + k * 7 + 1, none⟩ = some (.int .i64 ty) := hcell 1 _ rfl
      have d2 : wo.cell? ⟨b, o + k * 7 + 2, none⟩ = some (.int .i64 sc) := hcell 2 _ rfl
      have d3 : wo.cell? ⟨b, o + k * 7 + 3, none⟩ = some (.int .i64 sg) := hcell 3 _ rfl
      have d4 : wo.cell? ⟨b, o + k * 7 + 4, none⟩ = some (.bool rg) := hcell 4 _ rfl
      have d5 : wo.cell? ⟨b, o + k * 7 + 5, none⟩ = some (.int .i64 mb) := hcell 5 _ rfl
      have d6 : wo.cell? ⟨b, o + k * 7 + 6, none⟩ = some (.int .i64 lb) := hcell 6 _ rfl
      obtain ⟨q0, q1, q2, q3, q4, q5, q6, q7, q8⟩ := (HY5.out.step HB6.out).nine
      have hwk := nat_wrap k (by omega)
      clear hcell
      have hal := below_new wo #[.string (bsB nm), .int .i64 ty, .int .i64 sc, .int .i64 sg, .bool rg, .int .i64 mb, .int .i64 lb] 42
      have HB7 := Lib.hid (ext_trans HB6.out hal)
      have HV7 := Lib.hid (Bx.new wo #[.string (bsB nm), .int .i64 ty, .int .i64 sc, .int .i64 sg, .bool rg, .int .i64 mb, .int .i64 lb] 42)
      clear hal
      go_upto_region 11 with fail
      generalize wo.alloc (.cells #[.string (bsB nm), .int .i64 ty, .int .i64 sc, .int .i64 sg, .bool rg, .int .i64 mb, .int .i64 lb] 42) = w7 at *
      clear d0 d1 d2 d3 d4 d5 d6 q0 q1 q2 q3 q4 q5 q6 q7 q8
      obtain ⟨q0, q1, q2, q3, q4, q5, q6, q7, q8⟩ := (HY5.out.step HB7.out).nine
      go_wp2_with fail
      clear q0 q1 q2 q3 q4 q5 q6 q7 q8
      go_loopw [50] (fun i wr => ∃ j : Nat, j ≤ a.V.length ∧ i = .int .i64 j ∧ Below w7.heap.size w7 wr) (fun i _ => a.V.length - (intOf i).toNat)
      case atStart => exact ⟨0, Nat.zero_le _, rfl, Below.refl _ _⟩
      case round =>
        obtain ⟨j, hj, rfl, hb⟩ := hrel
        have HB8 := Lib.hid hb
        clear hb
        by_cases hjl : j < a.V.length
        · have hyy := (HVA.out.below (ext_trans HB7.out HB8.out)).at (show 0 < a.V.length by omega)
          obtain ⟨b2, o2, e5, hcell⟩ := (HVA.out.below (ext_trans HB7.out HB8.out)).vrs hjl
          have HMW := Lib.hid (List.getElem_mem hjl)
          have hwj := nat_wrap j (by omega)
          generalize a.V[j] = x at hcell HMW
          obtain ⟨nm2, ty2, sc2, sg2, rg2, mb2, lb2⟩ := x
          have d0 : wr.cell? ⟨b2, o2 + j * 7, none⟩ = some (.string (bsB nm2)) := hcell 0 _ rfl
          have d1 : wr.cell? ⟨b2, o2 + j * 7 + 1, none⟩ = some (.int .i64 ty2) := hcell 1 _ rfl
          have d2 : wr.cell? ⟨b2, o2 + j * 7 + 2, none⟩ = some (.int .i64 sc2) := hcell 2 _ rfl
          have d3 : wr.cell? ⟨b2, o2 + j * 7 + 3, none⟩ = some (.int .i64 sg2) := hcell 3 _ rfl
          have d4 : wr.cell? ⟨b2, o2 + j * 7 + 4, none⟩ = some (.bool rg2) := hcell 4 _ rfl
          have d5 : wr.cell? ⟨b2, o2 + j * 7 + 5, none⟩ = some (.int .i64 mb2) := hcell 5 _ rfl
          have d6 : wr.cell? ⟨b2, o2 + j * 7 + 6, none⟩ = some (.int .i64 lb2) := hcell 6 _ rfl
          subst e5
          have hal := below_new wr #[.string (bsB nm2), .int .i64 ty2, .int .i64 sc2, .int .i64 sg2, .bool rg2, .int .i64 mb2, .int .i64 lb2] 42
          have HB9 := Lib.hid (ext_trans HB8.out hal)
          have HW9 := Lib.hid (Bx.new wr #[.string (bsB nm2), .int .i64 ty2, .int .i64 sc2, .int .i64 sg2, .bool rg2, .int .i64 mb2, .int .i64 lb2] 42)
          clear hal hcell hyy
          go_upto_region 14 with fail
          generalize wr.alloc (.cells #[.string (bsB nm2), .int .i64 ty2, .int .i64 sc2, .int .i64 sg2, .bool rg2, .int .i64 mb2, .int .i64 lb2] 42) = w9 at *
          clear d0 d1 d2 d3 d4 d5 d6
          have HV9 := Lib.hid (HV7.out.step HB9.out)
          have HD9 := Lib.hid (ext_trans HB7.out HB9.out)
          have HY9 := Lib.hid (HY5.out.step HD9.out)
          have HX9 := Lib.hid (HX5.out.step HD9.out)
          have r0 := HV9.out.1.cell (j := 0) rfl
          have r3 := HV9.out.1.cell (j := 3) rfl
          have r4 := HV9.out.1.cell (j := 4) rfl
          have r5 := HV9.out.1.cell (j := 5) rfl
          have r6 := HV9.out.1.cell (j := 6) rfl
          have s0 := HW9.out.1.cell (j := 0) rfl
          have s3 := HW9.out.1.cell (j := 3) rfl
          have s4 := HW9.out.1.cell (j := 4) rfl
          have s5 := HW9.out.1.cell (j := 5) rfl
          have s6 := HW9.out.1.cell (j := 6) rfl
          obtain ⟨p0, p1, p2, p3, p4, p5, p6, p7, p8⟩ := HX9.out.nine
          by_cases c0 : nm = nm2
          rotate_left
          · have hss := ba_ne (bs_ne c0)
            clear c0
            go_wp2_with fail
            go_roundw
            case rel => exact ⟨j + 1, by omega, by go_num, HB9.out⟩
            case measure => simp [intOf]; omega
          subst c0
          by_cases c1 : t.S = []
          rotate_left
          · have hsl : 0 < t.S.length := List.length_pos_iff.2 c1
            have hsl2 : decide ((0 : Int) < (t.S.length : Int)) = true := by rw [decide_eq_true_iff]; omega
            clear c1
            go_wp2_with fail
            go_roundw
            case rel => exact ⟨j + 1, by omega, by go_num, HB9.out⟩
            case measure => simp [intOf]; omega
          have hslB : ¬ 0 < t.S.length := by rw [c1]; simp
          have hslA : decide ((0 : Int) < (t.S.length : Int)) = false := by rw [decide_eq_false_iff_not]; omega
          have HC1 := Lib.hid c1
          clear c1
          by_cases c2 : rg = rg2
          rotate_left
          · have hbb : (rg = true ∧ rg2 = false) ∨ (rg = false ∧ rg2 = true) := by cases rg <;> cases rg2 <;> simp_all
            clear c2
            rcases hbb with ⟨hb1, hb2⟩ | ⟨hb1, hb2⟩
            · subst hb1 hb2
              go_wp2_with fail
              go_roundw
              case rel => exact ⟨j + 1, by omega, by go_num, HB9.out⟩
              case measure => simp [intOf]; omega
            · subst hb1 hb2
              go_wp2_with fail
              go_roundw
              case rel => exact ⟨j + 1, by omega, by go_num, HB9.out⟩
              case measure => simp [intOf]; omega
          subst c2
          by_cases c3 : mb = mb2
          rotate_left
          · have hss : (mb != mb2) = true := by rw [bne_iff_ne]; exact c3
            clear c3
            go_wp2_with fail
            go_roundw
            case rel => exact ⟨j + 1, by omega, by go_num, HB9.out⟩
            case measure => simp [intOf]; omega
          subst c3
          by_cases c4 : lb = lb2
          rotate_left
          · have hss : (lb != lb2) = true := by rw [bne_iff_ne]; exact c4
            clear c4
            go_wp2_with fail
            go_roundw
            case rel => exact ⟨j + 1, by omega, by go_num, HB9.out⟩
            case measure => simp [intOf]; omega
          subst c4
          have HG9 := Lib.hid (HGV.out HC1.out _ _ HMV.out HMW.out rfl rfl rfl rfl)
          have gw0 := HG9.out.w0
          have gw1 := HG9.out.w1
          have gv0 := HG9.out.v0
          have gv1 := HG9.out.v1
          dsimp only at gw0 gw1 gv0 gv1
          obtain ⟨i1, hi1⟩ : ∃ i : Nat, sg = (i : Int) := ⟨sg.toNat, by omega⟩
          obtain ⟨i2, hi2⟩ : ∃ i : Nat, sg2 = (i : Int) := ⟨sg2.toNat, by omega⟩
          subst hi1 hi2
          have hm1 : i1 < p.M.length := by rw [HT.out.len]; omega
          have hm2 : i2 < q.M.length := by rw [HQ5.out.len]; omega
          have hsg := (HT.out.below (ext_trans HB5.out HD9.out)).g
          rw [e3, ← HT.out.len] at hsg
          obtain ⟨b4, o4, e6, f0, f1, f2, hd4⟩ := hsg.at hm1
          have hsa := (HQ5.out.below HD9.out).g
          rw [HF3.out] at hsa
          obtain ⟨b5, o5, e7, g0, g1, g2, hd5⟩ := hsa.at hm2
          have hx1 : sgI t.G (i1 : Int) = p.M[i1].1 := HT.out.sg hm1
          have hx2 : sgI a.G (i2 : Int) = q.M[i2].1 := HQ5.out.sg hm2
          have hfa := (HLA.out.fb.g q.M[i2].1 (by rw [← HQ5.out.m]; exact List.mem_map.2 ⟨_, List.getElem_mem hm2, rfl⟩)).1
          have hft := (HV.out.fb.g p.M[i1].1 (by rw [← HT.out.m]; exact List.mem_map.2 ⟨_, List.getElem_mem hm1, rfl⟩)).1
          have ge := HG9.out.e
          have gf := HG9.out.f
          have gg := HG9.out.g
          have gp := HG9.out.p
          dsimp only at ge gf gg
          rw [hx1] at ge gf gg
          rw [hx2] at gg
          generalize p.M[i1] = X1 at *
          generalize q.M[i2] = X2 at *
          obtain ⟨⟨xk, xn, xl⟩, xv⟩ := X1
          obtain ⟨⟨ak, an, al⟩, av⟩ := X2
          dsimp only at f0 f1 f2 g0 g1 g2 hd4 hd5 hfa hft ge gf gg
          obtain ⟨xa, xc, rfl, -, -⟩ := hd4.shape
          obtain ⟨aa, ac, rfl, -, -⟩ := hd5.shape
          obtain ⟨n1, n2, n3, n4, n5⟩ := nz_ok ge
          have hsv := nz_sv ge
          rw [n1] at gf gg
          dsimp only at gf gg
          have hfn := sv_fit hsv
          generalize hNl : normS xk xn xl = nl at *
          obtain ⟨⟨wv, we⟩, hWV⟩ : ∃ r, r = atR xk xn nl tm := ⟨_, rfl⟩
          rw [← hWV] at gf gg
          dsimp only at gf gg
          have gf : we = 0 := gf
          subst gf
          have hXN := fun W (hW : Below w9.heap.size w9 W) => sig_Normalize xk xn (.slice xa xl.length xc) xl W (HG.out.below (ext_trans HB5.out (ext_trans HD9.out hW))) (hd4.below hW) hft
          have hXA := fun u W (hW : Below w9.heap.size w9 W) (hu : SlR W u nl.length (chs nl)) => sig_At xk xn u nl tm W (HG.out.below (ext_trans HB5.out (ext_trans HD9.out hW))) hu hfn
          have hAA := fun W (hW : Below w9.heap.size w9 W) => sig_At ak an (.slice aa al.length ac) al tm W (HG.out.below (ext_trans HB5.out (ext_trans HD9.out hW))) (hd5.below hW) hfa
          rw [n1] at hXN
          rw [← hWV] at hXA
          rw [gg] at hAA
          dsimp only at hXA hAA
          have hOA := fun W (hW : Below w9.heap.size w9 W) => tr_Off q.vp a.P tm W ((HQ5.out.below (ext_trans HD9.out hW)).q)
          have hOT := fun W (hW : Below w9.heap.size w9 W) => tr_Off p.vp t.P tm W ((HT.out.below (ext_trans HB5.out (ext_trans HD9.out hW))).q)
          rw [HF4.out] at hOA
          rw [e4, ← gp] at hOT
          generalize hig : inP a.P tm = ig at *
          have HXN := Lib.hid hXN
          have HXA := Lib.hid hXA
          have HAA := Lib.hid hAA
          have HOA := Lib.hid hOA
          have HOT := Lib.hid hOT
          have HVT2 := Lib.hid n2
          have HD4 := Lib.hid hd4
          clear hXN hXA hAA hOA hOT n1 n2 n3 n4 n5 hsv hfn hNl hWV gg gp ge hx1 hx2 hfa hft hd4 hd5 hsg hsa hig
          subst e6 e7
          have hal := below_new w9 #[.int .i64 xk, .int .i64 xn, .slice xa xl.length xc] 45
          have HE10 := Lib.hid hal
          have HS10 := Lib.hid (Bx.new w9 #[.int .i64 xk, .int .i64 xn, .slice xa xl.length xc] 45)
          obtain ⟨q0, q1, q2, q3, q4, q5, q6, q7, q8⟩ := HY9.out.nine
          clear hal
          go_upto_region 18 with fail
          generalize w9.alloc (.cells #[.int .i64 xk, .int .i64 xn, .slice xa xl.length xc] 45) = w10 at *
          have k0 := HS10.out.1.cell (j := 0) rfl
          have k1 := HS10.out.1.cell (j := 1) rfl
          have k2 := HS10.out.1.cell (j := 2) rfl
          clear r0 r3 r4 r5 r6 s0 s4 s5 s6 p0 p1 p2 p3 p4 p5 p6 p7 p8 q0 q1 q2 q3 q4 q5 q6 q7 q8 f0 f1 f2
          go_wp2_with fail
          refine (HXN.out w10 HE10.out).mono ?_
          rintro e w11 ⟨v11, rfl, ho11, hb11⟩
          dsimp only at ho11
          obtain ⟨na, nc, rfl, -, -⟩ := (SlR.of_own ho11).shape
          have HE11 := Lib.hid (ext_trans HE10.out hb11)
          have HS11 := Lib.hid (HS10.out.step hb11)
          have hal := below_new w11 #[.int .i64 xk, .int .i64 xn, .slice na nl.length nc] 45
          have HN12 := Lib.hid ((SlR.of_own ho11).below hal)
          have HE12 := Lib.hid (ext_trans HE11.out hal)
          have HS12 := Lib.hid (HS11.out.step hal)
          have HZ12 := Lib.hid (Bx.new w11 #[.int .i64 xk, .int .i64 xn, .slice na nl.length nc] 45)
          clear ho11 hb11 hal HXN k0 k1 k2
          go_upto_region 19 with fail
          generalize w11.alloc (.cells #[.int .i64 xk, .int .i64 xn, .slice na nl.length nc] 45) = w12 at *
          have k0 := HZ12.out.1.cell (j := 0) rfl
          have k1 := HZ12.out.1.cell (j := 1) rfl
          have k2 := HZ12.out.1.cell (j := 2) rfl
          go_wp2_with fail
          refine (HXA.out _ w12 HE12.out HN12.out).mono ?_
          rintro e w13 ⟨rfl, hb13⟩
          have HE13 := Lib.hid (ext_trans HE12.out hb13)
          have HS13 := Lib.hid (HS12.out.step hb13)
          have HY13 := Lib.hid (HY9.out.step HE13.out)
          have g0 := (HE13.out.cell (cell_lt g0)).trans g0
          have g1 := (HE13.out.cell (cell_lt g1)).trans g1
          have g2 := (HE13.out.cell (cell_lt g2)).trans g2
          have s3 := (HE13.out.cell (cell_lt s3)).trans s3
          have y6 := HY13.out.1.cell (j := 6) rfl
          clear hb13 HXA k0 k1 k2 HZ12 HN12
          go_wp2_with fail
          refine (HAA.out w13 HE13.out).mono ?_
          rintro e w14 ⟨rfl, hb14⟩
          have HE14 := Lib.hid (ext_trans HE13.out hb14)
          have HS14 := Lib.hid (HS13.out.step hb14)
          have HY14 := Lib.hid (HY13.out.step hb14)
          have HX14 := Lib.hid (HX9.out.step HE14.out)
          have k0 := HS14.out.1.cell (j := 0) rfl
          have k1 := HS14.out.1.cell (j := 1) rfl
          have y7 := HY14.out.1.cell (j := 7) rfl
          clear hb14 HAA g0 g1 g2 s3 y6
          by_cases hk : xk = 0
          · subst hk
            cases ig
            · rw [if_neg (fun h => by cases h.2)]
              go_wp2_with fail
              refine (HOA.out w14 HE14.out).mono ?_
              rintro e w15 ⟨rfl, hb15⟩
              have HE15 := Lib.hid (ext_trans HE14.out hb15)
              clear hb15 k0 k1 y7
              have HLW := Lib.hid (show Below w9.heap.size w9 (w15).drew from (HE15).out.drew)
              have y7 := (HY9.out.step (HE15).out).1.cell (j := 7) rfl
              have t7 := (HX9.out.step (HE15).out).1.cell (j := 7) rfl
              go_upto_region 23 with fail
              refine wp_region_held_drew (S := (fun w' => w'.cell? ⟨w4.heap.size, 7, none⟩ = some (.slice x4 a.P.length y4) ∧ w'.cell? ⟨w.heap.size, 7, none⟩ = some (.slice a4 t.P.length k4))) (by kernel_rfl) ⟨y7, t7⟩ (fun hHeld => ?_)
              clear y7 t7
              refine wpAnyH_take (i := 0) (v := ?_) rfl (by kernel_rfl) (by kernel_rfl) (by kernel_rfl) (fun _ _ _ h => h) (Or.inl ⟨by rfl, ?_⟩) hHeld ?_
              rotate_left
              · intro w hSw
                (try dsimp only at hSw)
                go_simp
                all_goals with_reducible rfl
              simp only [Act.put, List.getElem_toArray, List.getElem_cons_succ, List.getElem_cons_zero, List.setIfInBounds_toArray, List.set_cons_zero, List.set_cons_succ]
              refine wpAnyH_take (i := 1) (v := ?_) rfl (by kernel_rfl) (by kernel_rfl) (by kernel_rfl) (fun _ _ _ h => h) (Or.inl ⟨by rfl, ?_⟩) hHeld ?_
              rotate_left
              · intro w hSw
                (try dsimp only at hSw)
                go_simp
                all_goals with_reducible rfl
              simp only [Act.put, List.getElem_toArray, List.getElem_cons_succ, List.getElem_cons_zero, List.setIfInBounds_toArray, List.set_cons_zero, List.set_cons_succ]
              refine wpAnyH_take (i := 2) (v := ?_) rfl (by kernel_rfl) (by kernel_rfl) (by kernel_rfl) (fun _ _ _ h => h) (Or.inl ⟨by rfl, ?_⟩) hHeld ?_
              rotate_left
              · intro w hSw
                (try dsimp only at hSw)
                go_simp
                all_goals with_reducible rfl
              simp only [Act.put, List.getElem_toArray, List.getElem_cons_succ, List.getElem_cons_zero, List.setIfInBounds_toArray, List.set_cons_zero, List.set_cons_succ]
              refine wpAnyH_take (i := 3) (v := ?_) rfl (by kernel_rfl) (by kernel_rfl) (by kernel_rfl) (fun _ _ _ h => h) (Or.inl ⟨by rfl, ?_⟩) hHeld ?_
              rotate_left
              · intro w hSw
                (try dsimp only at hSw)
                go_simp
                all_goals with_reducible rfl
              simp only [Act.put, List.getElem_toArray, List.getElem_cons_succ, List.getElem_cons_zero, List.setIfInBounds_toArray, List.set_cons_zero, List.set_cons_succ]
              refine wpAnyH_take (i := 4) (v := ?_) rfl (by kernel_rfl) (by kernel_rfl) (by kernel_rfl) (fun _ _ _ h => h) (Or.inl ⟨by rfl, ?_⟩) hHeld ?_
              rotate_left
              · intro w hSw
                (try dsimp only at hSw)
                go_simp
                all_goals with_reducible rfl
              simp only [Act.put, List.getElem_toArray, List.getElem_cons_succ, List.getElem_cons_zero, List.setIfInBounds_toArray, List.set_cons_zero, List.set_cons_succ]
              refine wpAnyH_take (i := 5) (v := ?_) rfl (by kernel_rfl) (by kernel_rfl) (by kernel_rfl) (fun _ _ _ h => h) (Or.inl ⟨by rfl, ?_⟩) hHeld ?_
              rotate_left
              · intro w hSw
                (try dsimp only at hSw)
                go_simp
                all_goals with_reducible rfl
              simp only [Act.put, List.getElem_toArray, List.getElem_cons_succ, List.getElem_cons_zero, List.setIfInBounds_toArray, List.set_cons_zero, List.set_cons_succ]
              refine wpAnyH_take (i := 6) (v := ?_) rfl (by kernel_rfl) (by kernel_rfl) (by kernel_rfl) (fun _ _ _ h => h) (Or.inl ⟨by rfl, ?_⟩) hHeld ?_
              rotate_left
              · intro w hSw
                (try dsimp only at hSw)
                go_simp
                all_goals with_reducible rfl
              simp only [Act.put, List.getElem_toArray, List.getElem_cons_succ, List.getElem_cons_zero, List.setIfInBounds_toArray, List.set_cons_zero, List.set_cons_succ]
              refine wpAnyH_take (i := 7) (v := ?_) rfl (by kernel_rfl) (by kernel_rfl) (by kernel_rfl) (fun _ _ _ h => h) (Or.inl ⟨by rfl, ?_⟩) hHeld ?_
              rotate_left
              · intro w hSw
                (try dsimp only at hSw)
                go_simp
                all_goals with_reducible rfl
              simp only [Act.put, List.getElem_toArray, List.getElem_cons_succ, List.getElem_cons_zero, List.setIfInBounds_toArray, List.set_cons_zero, List.set_cons_succ]
              refine wpAnyH_take (i := 8) (v := ?_) rfl (by kernel_rfl) (by kernel_rfl) (by kernel_rfl) (fun _ _ _ h => h) (Or.inl ⟨by rfl, ?_⟩) hHeld ?_
              rotate_left
              · intro w hSw
                (try dsimp only at hSw)
                go_simp
                all_goals with_reducible rfl
              simp only [Act.put, List.getElem_toArray, List.getElem_cons_succ, List.getElem_cons_zero, List.setIfInBounds_toArray, List.set_cons_zero, List.set_cons_succ]
              refine wpAnyH_take (i := 9) (v := ?_) rfl (by kernel_rfl) (by kernel_rfl) (by kernel_rfl) (fun _ _ _ h => h) (Or.inl ⟨by rfl, ?_⟩) hHeld ?_
              rotate_left
              · intro w hSw
                (try dsimp only at hSw)
                go_simp
                all_goals with_reducible rfl
              simp only [Act.put, List.getElem_toArray, List.getElem_cons_succ, List.getElem_cons_zero, List.setIfInBounds_toArray, List.set_cons_zero, List.set_cons_succ]
              refine wpAnyH_take (i := 10) (v := ?_) rfl (by kernel_rfl) (by kernel_rfl) (by kernel_rfl) (fun _ _ _ h => h) (Or.inl ⟨by rfl, ?_⟩) hHeld ?_
              rotate_left
              · intro w hSw
                (try dsimp only at hSw)
                go_simp
                all_goals with_reducible rfl
              simp only [Act.put, List.getElem_toArray, List.getElem_cons_succ, List.getElem_cons_zero, List.setIfInBounds_toArray, List.set_cons_zero, List.set_cons_succ]
              refine wpAnyH_take (i := 11) (v := ?_) rfl (by kernel_rfl) (by kernel_rfl) (by kernel_rfl) (fun _ _ _ h => h) (Or.inl ⟨by rfl, ?_⟩) hHeld ?_
              rotate_left
              · intro w hSw
                (try dsimp only at hSw)
                go_simp
                all_goals with_reducible rfl
              simp only [Act.put, List.getElem_toArray, List.getElem_cons_succ, List.getElem_cons_zero, List.setIfInBounds_toArray, List.set_cons_zero, List.set_cons_succ]
              refine wpAnyH_take (i := 12) (v := ?_) rfl (by kernel_rfl) (by kernel_rfl) (by kernel_rfl) (fun _ _ _ h => h) (Or.inl ⟨by rfl, ?_⟩) hHeld ?_
              rotate_left
              · intro w hSw
                (try dsimp only at hSw)
                go_simp
                all_goals with_reducible rfl
              simp only [Act.put, List.getElem_toArray, List.getElem_cons_succ, List.getElem_cons_zero, List.setIfInBounds_toArray, List.set_cons_zero, List.set_cons_succ]
              refine wpAnyH_take (i := 13) (v := ?_) rfl (by kernel_rfl) (by kernel_rfl) (by kernel_rfl) (fun _ _ _ h => h) (Or.inl ⟨by rfl, ?_⟩) hHeld ?_
              rotate_left
              · intro w hSw
                (try dsimp only at hSw)
                go_simp
                all_goals with_reducible rfl
              simp only [Act.put, List.getElem_toArray, List.getElem_cons_succ, List.getElem_cons_zero, List.setIfInBounds_toArray, List.set_cons_zero, List.set_cons_succ]
              refine wpAnyH_take (i := 14) (v := ?_) rfl (by kernel_rfl) (by kernel_rfl) (by kernel_rfl) (fun _ _ _ h => h) (Or.inl ⟨by rfl, ?_⟩) hHeld ?_
              rotate_left
              · intro w hSw
                (try dsimp only at hSw)
                go_simp
                all_goals with_reducible rfl
              simp only [Act.put, List.getElem_toArray, List.getElem_cons_succ, List.getElem_cons_zero, List.setIfInBounds_toArray, List.set_cons_zero, List.set_cons_succ]
              refine wpAnyH_take (i := 15) (v := ?_) rfl (by kernel_rfl) (by kernel_rfl) (by kernel_rfl) (fun _ _ _ h => h) (Or.inl ⟨by rfl, ?_⟩) hHeld ?_
              rotate_left
              · intro w hSw
                (try dsimp only at hSw)
                go_simp
                all_goals with_reducible rfl
              simp only [Act.put, List.getElem_toArray, List.getElem_cons_succ, List.getElem_cons_zero, List.setIfInBounds_toArray, List.set_cons_zero, List.set_cons_succ]
              refine wpAnyH_take (i := 16) (v := ?_) rfl (by kernel_rfl) (by kernel_rfl) (by kernel_rfl) (fun _ _ _ h => h) (Or.inl ⟨by rfl, ?_⟩) hHeld ?_
              rotate_left
              · intro w hSw
                (try dsimp only at hSw)
                go_simp
                all_goals with_reducible rfl
              simp only [Act.put, List.getElem_toArray, List.getElem_cons_succ, List.getElem_cons_zero, List.setIfInBounds_toArray, List.set_cons_zero, List.set_cons_succ]
              refine wpAnyH_take (i := 17) (v := ?_) rfl (by kernel_rfl) (by kernel_rfl) (by kernel_rfl) (fun _ _ _ h => h) (Or.inl ⟨by rfl, ?_⟩) hHeld ?_
              rotate_left
              · intro w hSw
                (try dsimp only at hSw)
                go_simp
                all_goals with_reducible rfl
              simp only [Act.put, List.getElem_toArray, List.getElem_cons_succ, List.getElem_cons_zero, List.setIfInBounds_toArray, List.set_cons_zero, List.set_cons_succ]
              refine wpAnyH_take (i := 18) (v := ?_) rfl (by kernel_rfl) (by kernel_rfl) (by kernel_rfl) (fun _ _ _ h => h) (Or.inl ⟨by rfl, ?_⟩) hHeld ?_
              rotate_left
              · intro w hSw
                (try dsimp only at hSw)
                go_simp
                all_goals with_reducible rfl
              simp only [Act.put, List.getElem_toArray, List.getElem_cons_succ, List.getElem_cons_zero, List.setIfInBounds_toArray, List.set_cons_zero, List.set_cons_succ]
              refine wpAnyH_take (i := 20) (v := ?_) rfl (by kernel_rfl) (by kernel_rfl) (by kernel_rfl) (fun _ _ _ h => h) (Or.inl ⟨by rfl, ?_⟩) hHeld ?_
              rotate_left
              · intro w hSw
                (try dsimp only at hSw)
                go_simp
                all_goals with_reducible rfl
              simp only [Act.put, List.getElem_toArray, List.getElem_cons_succ, List.getElem_cons_zero, List.setIfInBounds_toArray, List.set_cons_zero, List.set_cons_succ]
              refine wpAnyH_take (i := 21) (v := ?_) rfl (by kernel_rfl) (by kernel_rfl) (by kernel_rfl) (fun _ _ _ h => h) (Or.inl ⟨by rfl, ?_⟩) hHeld ?_
              rotate_left
              · intro w hSw
                (try dsimp only at hSw)
                go_simp
                all_goals with_reducible rfl
              simp only [Act.put, List.getElem_toArray, List.getElem_cons_succ, List.getElem_cons_zero, List.setIfInBounds_toArray, List.set_cons_zero, List.set_cons_succ]
              refine wpAnyH_take (i := 22) (v := ?_) rfl (by kernel_rfl) (by kernel_rfl) (by kernel_rfl) (fun _ _ _ h => h) (Or.inl ⟨by rfl, ?_⟩) hHeld ?_
              rotate_left
              · intro w hSw
                (try dsimp only at hSw)
                go_simp
                all_goals with_reducible rfl
              simp only [Act.put, List.getElem_toArray, List.getElem_cons_succ, List.getElem_cons_zero, List.setIfInBounds_toArray, List.set_cons_zero, List.set_cons_succ]
              refine wpAnyH_ready (rs := [19]) (by kernel_rfl) (by simp) ?_
              refine AllReadyH.cons (o := _) rfl (fun K hK => ?_) AllReadyH.nil
              go_simp
              refine ((HOA).out _ HLW.out).mono ?_
              rintro e wA ⟨rfl, hbA⟩
              have HLA1 := Lib.hid (ext_trans HLW.out hbA)
              clear hbA hHeld
              go_wp2_with fail
              refine hK.out _ _ (And.intro ((HY9.out.step HLA1.out).1.cell (j := 7) rfl) ((HX9.out.step HLA1.out).1.cell (j := 7) rfl)) (fun hHeld => ?_)
              clear hK
              try simp only [Act.put, List.getElem_toArray, List.getElem_cons_succ, List.getElem_cons_zero, List.setIfInBounds_toArray, List.set_cons_zero, List.set_cons_succ]
              refine wpAnyH_ready (rs := [23]) (by kernel_rfl) (by simp) ?_
              refine AllReadyH.cons (o := _) rfl (fun K hK => ?_) AllReadyH.nil
              go_simp
              refine ((HOT).out _ HLA1.out).mono ?_
              rintro e wB ⟨rfl, hbB⟩
              have HLB := Lib.hid (ext_trans HLA1.out hbB)
              clear hbB hHeld
              go_wp2_with fail
              refine hK.out _ _ (And.intro ((HY9.out.step HLB.out).1.cell (j := 7) rfl) ((HX9.out.step HLB.out).1.cell (j := 7) rfl)) (fun hHeld => ?_)
              clear hK
              try simp only [Act.put, List.getElem_toArray, List.getElem_cons_succ, List.getElem_cons_zero, List.setIfInBounds_toArray, List.set_cons_zero, List.set_cons_succ]
              refine wpAnyH_take (i := 24) (v := ?_) rfl (by kernel_rfl) (by kernel_rfl) (by kernel_rfl) (fun _ _ _ h => h) (Or.inl ⟨by rfl, ?_⟩) hHeld ?_
              rotate_left
              · intro w hSw
                (try dsimp only at hSw)
                go_simp
                all_goals with_reducible rfl
              simp only [Act.put, List.getElem_toArray, List.getElem_cons_succ, List.getElem_cons_zero, List.setIfInBounds_toArray, List.set_cons_zero, List.set_cons_succ]
              refine wpAnyH_take (i := 25) (v := ?_) rfl (by kernel_rfl) (by kernel_rfl) (by kernel_rfl) (fun _ _ _ h => h) (Or.inl ⟨by rfl, ?_⟩) hHeld ?_
              rotate_left
              · intro w hSw
                (try dsimp only at hSw)
                go_simp
                all_goals with_reducible rfl
              simp only [Act.put, List.getElem_toArray, List.getElem_cons_succ, List.getElem_cons_zero, List.setIfInBounds_toArray, List.set_cons_zero, List.set_cons_succ]
              refine wpAnyH_done (by kernel_rfl) ?_ _
              clear hHeld
              go_wp2_with fail
              go_roundw
              case rel => exact ⟨j + 1, by omega, by go_num, ext_trans HB9.out HLB.out⟩
              case measure => simp [intOf]; omega
            · rw [if_pos ⟨rfl, rfl⟩]
              have hxn : 1 ≤ xn ∧ xn ≤ 128 := by
                have := HVT2.out
                unfold vt at this
                simp at this
                exact this
              obtain ⟨nk, hnk⟩ : ∃ nk : Nat, xn = (nk : Int) := ⟨xn.toNat, by omega⟩
              have hvi : vi 0 xn = ⟨(Lib.repeatL [120] nk).toArray⟩ := by
                unfold vi
                rw [if_pos HVT2.out, if_pos rfl]
                unfold allR
                rw [if_neg (by rw [show codeOf 120 = 2 by decide]; omega), repeatL_one, hnk, Int.toNat_natCast]
              rw [hvi]
              have HRP := Lib.hid (show ∀ W, Calls Tryz.prog 29 #[.string ⟨#[120]⟩, .int .i64 nk] W fun e w' => e = .returned (.string ⟨(Lib.repeatL [120] nk).toArray⟩) ∧ Below W.heap.size W w' from fun W => Tryz.strings_Repeat ⟨#[120]⟩ nk W (by omega) (by simp [ByteArray.size]; omega))
              clear hvi
              subst hnk
              generalize (Lib.repeatL [120] nk).toArray = rp at *
              go_wp2_with fail
              refine (HOA.out w14 HE14.out).mono ?_
              rintro e w15 ⟨rfl, hb15⟩
              have HE15 := Lib.hid (ext_trans HE14.out hb15)
              have HS15 := Lib.hid (HS14.out.step hb15)
              have k1 := HS15.out.1.cell (j := 1) rfl
              clear hb15
              go_wp2_with fail
              refine (HRP.out w15).mono ?_
              rintro e w16 ⟨rfl, hb16⟩
              have HE16 := Lib.hid (ext_trans HE15.out hb16)
              clear hb16 k0 k1 y7
              have HLW := Lib.hid (show Below w9.heap.size w9 (w16).drew from (HE16).out.drew)
              have y7 := (HY9.out.step (HE16).out).1.cell (j := 7) rfl
              have t7 := (HX9.out.step (HE16).out).1.cell (j := 7) rfl
              go_upto_region 23 with fail
              refine wp_region_held_drew (S := (fun w' => w'.cell? ⟨w4.heap.size, 7, none⟩ = some (.slice x4 a.P.length y4) ∧ w'.cell? ⟨w.heap.size, 7, none⟩ = some (.slice a4 t.P.length k4))) (by kernel_rfl) ⟨y7, t7⟩ (fun hHeld => ?_)
              clear y7 t7
              refine wpAnyH_take (i := 0) (v := ?_) rfl (by kernel_rfl) (by kernel_rfl) (by kernel_rfl) (fun _ _ _ h => h) (Or.inl ⟨by rfl, ?_⟩) hHeld ?_
              rotate_left
              · intro w hSw
                (try dsimp only at hSw)
                go_simp
                all_goals with_reducible rfl
              simp only [Act.put, List.getElem_toArray, List.getElem_cons_succ, List.getElem_cons_zero, List.setIfInBounds_toArray, List.set_cons_zero, List.set_cons_succ]
              refine wpAnyH_take (i := 1) (v := ?_) rfl (by kernel_rfl) (by kernel_rfl) (by kernel_rfl) (fun _ _ _ h => h) (Or.inl ⟨by rfl, ?_⟩) hHeld ?_
              rotate_left
              · intro w hSw
                (try dsimp only at hSw)
                go_simp
                all_goals with_reducible rfl
              simp only [Act.put, List.getElem_toArray, List.getElem_cons_succ, List.getElem_cons_zero, List.setIfInBounds_toArray, List.set_cons_zero, List.set_cons_succ]
              refine wpAnyH_take (i := 2) (v := ?_) rfl (by kernel_rfl) (by kernel_rfl) (by kernel_rfl) (fun _ _ _ h => h) (Or.inl ⟨by rfl, ?_⟩) hHeld ?_
              rotate_left
              · intro w hSw
                (try dsimp only at hSw)
                go_simp
                all_goals with_reducible rfl
              simp only [Act.put, List.getElem_toArray, List.getElem_cons_succ, List.getElem_cons_zero, List.setIfInBounds_toArray, List.set_cons_zero, List.set_cons_succ]
              refine wpAnyH_take (i := 3) (v := ?_) rfl (by kernel_rfl) (by kernel_rfl) (by kernel_rfl) (fun _ _ _ h => h) (Or.inl ⟨by rfl, ?_⟩) hHeld ?_
              rotate_left
              · intro w hSw
                (try dsimp only at hSw)
                go_simp
                all_goals with_reducible rfl
              simp only [Act.put, List.getElem_toArray, List.getElem_cons_succ, List.getElem_cons_zero, List.setIfInBounds_toArray, List.set_cons_zero, List.set_cons_succ]
              refine wpAnyH_take (i := 4) (v := ?_) rfl (by kernel_rfl) (by kernel_rfl) (by kernel_rfl) (fun _ _ _ h => h) (Or.inl ⟨by rfl, ?_⟩) hHeld ?_
              rotate_left
              · intro w hSw
                (try dsimp only at hSw)
                go_simp
                all_goals with_reducible rfl
              simp only [Act.put, List.getElem_toArray, List.getElem_cons_succ, List.getElem_cons_zero, List.setIfInBounds_toArray, List.set_cons_zero, List.set_cons_succ]
              refine wpAnyH_take (i := 5) (v := ?_) rfl (by kernel_rfl) (by kernel_rfl) (by kernel_rfl) (fun _ _ _ h => h) (Or.inl ⟨by rfl, ?_⟩) hHeld ?_
              rotate_left
              · intro w hSw
                (try dsimp only at hSw)
                go_simp
                all_goals with_reducible rfl
              simp only [Act.put, List.getElem_toArray, List.getElem_cons_succ, List.getElem_cons_zero, List.setIfInBounds_toArray, List.set_cons_zero, List.set_cons_succ]
              refine wpAnyH_take (i := 6) (v := ?_) rfl (by kernel_rfl) (by kernel_rfl) (by kernel_rfl) (fun _ _ _ h => h) (Or.inl ⟨by rfl, ?_⟩) hHeld ?_
              rotate_left
              · intro w hSw
                (try dsimp only at hSw)
                go_simp
                all_goals with_reducible rfl
              simp only [Act.put, List.getElem_toArray, List.getElem_cons_succ, List.getElem_cons_zero, List.setIfInBounds_toArray, List.set_cons_zero, List.set_cons_succ]
              refine wpAnyH_take (i := 7) (v := ?_) rfl (by kernel_rfl) (by kernel_rfl) (by kernel_rfl) (fun _ _ _ h => h) (Or.inl ⟨by rfl, ?_⟩) hHeld ?_
              rotate_left
              · intro w hSw
                (try dsimp only at hSw)
                go_simp
                all_goals with_reducible rfl
              simp only [Act.put, List.getElem_toArray, List.getElem_cons_succ, List.getElem_cons_zero, List.setIfInBounds_toArray, List.set_cons_zero, List.set_cons_succ]
              refine wpAnyH_take (i := 8) (v := ?_) rfl (by kernel_rfl) (by kernel_rfl) (by kernel_rfl) (fun _ _ _ h => h) (Or.inl ⟨by rfl, ?_⟩) hHeld ?_
              rotate_left
              · intro w hSw
                (try dsimp only at hSw)
                go_simp
                all_goals with_reducible rfl
              simp only [Act.put, List.getElem_toArray, List.getElem_cons_succ, List.getElem_cons_zero, List.setIfInBounds_toArray, List.set_cons_zero, List.set_cons_succ]
              refine wpAnyH_take (i := 9) (v := ?_) rfl (by kernel_rfl) (by kernel_rfl) (by kernel_rfl) (fun _ _ _ h => h) (Or.inl ⟨by rfl, ?_⟩) hHeld ?_
              rotate_left
              · intro w hSw
                (try dsimp only at hSw)
                go_simp
                all_goals with_reducible rfl
              simp only [Act.put, List.getElem_toArray, List.getElem_cons_succ, List.getElem_cons_zero, List.setIfInBounds_toArray, List.set_cons_zero, List.set_cons_succ]
              refine wpAnyH_take (i := 10) (v := ?_) rfl (by kernel_rfl) (by kernel_rfl) (by kernel_rfl) (fun _ _ _ h => h) (Or.inl ⟨by rfl, ?_⟩) hHeld ?_
              rotate_left
              · intro w hSw
                (try dsimp only at hSw)
                go_simp
                all_goals with_reducible rfl
              simp only [Act.put, List.getElem_toArray, List.getElem_cons_succ, List.getElem_cons_zero, List.setIfInBounds_toArray, List.set_cons_zero, List.set_cons_succ]
              refine wpAnyH_take (i := 11) (v := ?_) rfl (by kernel_rfl) (by kernel_rfl) (by kernel_rfl) (fun _ _ _ h => h) (Or.inl ⟨by rfl, ?_⟩) hHeld ?_
              rotate_left
              · intro w hSw
                (try dsimp only at hSw)
                go_simp
                all_goals with_reducible rfl
              simp only [Act.put, List.getElem_toArray, List.getElem_cons_succ, List.getElem_cons_zero, List.setIfInBounds_toArray, List.set_cons_zero, List.set_cons_succ]
              refine wpAnyH_take (i := 12) (v := ?_) rfl (by kernel_rfl) (by kernel_rfl) (by kernel_rfl) (fun _ _ _ h => h) (Or.inl ⟨by rfl, ?_⟩) hHeld ?_
              rotate_left
              · intro w hSw
                (try dsimp only at hSw)
                go_simp
                all_goals with_reducible rfl
              simp only [Act.put, List.getElem_toArray, List.getElem_cons_succ, List.getElem_cons_zero, List.setIfInBounds_toArray, List.set_cons_zero, List.set_cons_succ]
              refine wpAnyH_take (i := 13) (v := ?_) rfl (by kernel_rfl) (by kernel_rfl) (by kernel_rfl) (fun _ _ _ h => h) (Or.inl ⟨by rfl, ?_⟩) hHeld ?_
              rotate_left
              · intro w hSw
                (try dsimp only at hSw)
                go_simp
                all_goals with_reducible rfl
              simp only [Act.put, List.getElem_toArray, List.getElem_cons_succ, List.getElem_cons_zero, List.setIfInBounds_toArray, List.set_cons_zero, List.set_cons_succ]
              refine wpAnyH_take (i := 14) (v := ?_) rfl (by kernel_rfl) (by kernel_rfl) (by kernel_rfl) (fun _ _ _ h => h) (Or.inl ⟨by rfl, ?_⟩) hHeld ?_
              rotate_left
              · intro w hSw
                (try dsimp only at hSw)
                go_simp
                all_goals with_reducible rfl
              simp only [Act.put, List.getElem_toArray, List.getElem_cons_succ, List.getElem_cons_zero, List.setIfInBounds_toArray, List.set_cons_zero, List.set_cons_succ]
              refine wpAnyH_take (i := 15) (v := ?_) rfl (by kernel_rfl) (by kernel_rfl) (by kernel_rfl) (fun _ _ _ h => h) (Or.inl ⟨by rfl, ?_⟩) hHeld ?_
              rotate_left
              · intro w hSw
                (try dsimp only at hSw)
                go_simp
                all_goals with_reducible rfl
              simp only [Act.put, List.getElem_toArray, List.getElem_cons_succ, List.getElem_cons_zero, List.setIfInBounds_toArray, List.set_cons_zero, List.set_cons_succ]
              refine wpAnyH_take (i := 16) (v := ?_) rfl (by kernel_rfl) (by kernel_rfl) (by kernel_rfl) (fun _ _ _ h => h) (Or.inl ⟨by rfl, ?_⟩) hHeld ?_
              rotate_left
              · intro w hSw
                (try dsimp only at hSw)
                go_simp
                all_goals with_reducible rfl
              simp only [Act.put, List.getElem_toArray, List.getElem_cons_succ, List.getElem_cons_zero, List.setIfInBounds_toArray, List.set_cons_zero, List.set_cons_succ]
              refine wpAnyH_take (i := 17) (v := ?_) rfl (by kernel_rfl) (by kernel_rfl) (by kernel_rfl) (fun _ _ _ h => h) (Or.inl ⟨by rfl, ?_⟩) hHeld ?_
              rotate_left
              · intro w hSw
                (try dsimp only at hSw)
                go_simp
                all_goals with_reducible rfl
              simp only [Act.put, List.getElem_toArray, List.getElem_cons_succ, List.getElem_cons_zero, List.setIfInBounds_toArray, List.set_cons_zero, List.set_cons_succ]
              refine wpAnyH_take (i := 18) (v := ?_) rfl (by kernel_rfl) (by kernel_rfl) (by kernel_rfl) (fun _ _ _ h => h) (Or.inl ⟨by rfl, ?_⟩) hHeld ?_
              rotate_left
              · intro w hSw
                (try dsimp only at hSw)
                go_simp
                all_goals with_reducible rfl
              simp only [Act.put, List.getElem_toArray, List.getElem_cons_succ, List.getElem_cons_zero, List.setIfInBounds_toArray, List.set_cons_zero, List.set_cons_succ]
              refine wpAnyH_take (i := 20) (v := ?_) rfl (by kernel_rfl) (by kernel_rfl) (by kernel_rfl) (fun _ _ _ h => h) (Or.inl ⟨by rfl, ?_⟩) hHeld ?_
              rotate_left
              · intro w hSw
                (try dsimp only at hSw)
                go_simp
                all_goals with_reducible rfl
              simp only [Act.put, List.getElem_toArray, List.getElem_cons_succ, List.getElem_cons_zero, List.setIfInBounds_toArray, List.set_cons_zero, List.set_cons_succ]
              refine wpAnyH_take (i := 21) (v := ?_) rfl (by kernel_rfl) (by kernel_rfl) (by kernel_rfl) (fun _ _ _ h => h) (Or.inl ⟨by rfl, ?_⟩) hHeld ?_
              rotate_left
              · intro w hSw
                (try dsimp only at hSw)
                go_simp
                all_goals with_reducible rfl
              simp only [Act.put, List.getElem_toArray, List.getElem_cons_succ, List.getElem_cons_zero, List.setIfInBounds_toArray, List.set_cons_zero, List.set_cons_succ]
              refine wpAnyH_take (i := 22) (v := ?_) rfl (by kernel_rfl) (by kernel_rfl) (by kernel_rfl) (fun _ _ _ h => h) (Or.inl ⟨by rfl, ?_⟩) hHeld ?_
              rotate_left
              · intro w hSw
                (try dsimp only at hSw)
                go_simp
                all_goals with_reducible rfl
              simp only [Act.put, List.getElem_toArray, List.getElem_cons_succ, List.getElem_cons_zero, List.setIfInBounds_toArray, List.set_cons_zero, List.set_cons_succ]
              refine wpAnyH_ready (rs := [19]) (by kernel_rfl) (by simp) ?_
              refine AllReadyH.cons (o := _) rfl (fun K hK => ?_) AllReadyH.nil
              go_simp
              refine ((HOA).out _ HLW.out).mono ?_
              rintro e wA ⟨rfl, hbA⟩
              have HLA1 := Lib.hid (ext_trans HLW.out hbA)
              clear hbA hHeld
              go_wp2_with fail
              refine hK.out _ _ (And.intro ((HY9.out.step HLA1.out).1.cell (j := 7) rfl) ((HX9.out.step HLA1.out).1.cell (j := 7) rfl)) (fun hHeld => ?_)
              clear hK
              try simp only [Act.put, List.getElem_toArray, List.getElem_cons_succ, List.getElem_cons_zero, List.setIfInBounds_toArray, List.set_cons_zero, List.set_cons_succ]
              refine wpAnyH_ready (rs := [23]) (by kernel_rfl) (by simp) ?_
              refine AllReadyH.cons (o := _) rfl (fun K hK => ?_) AllReadyH.nil
              go_simp
              refine ((HOT).out _ HLA1.out).mono ?_
              rintro e wB ⟨rfl, hbB⟩
              have HLB := Lib.hid (ext_trans HLA1.out hbB)
              clear hbB hHeld
              go_wp2_with fail
              refine hK.out _ _ (And.intro ((HY9.out.step HLB.out).1.cell (j := 7) rfl) ((HX9.out.step HLB.out).1.cell (j := 7) rfl)) (fun hHeld => ?_)
              clear hK
              try simp only [Act.put, List.getElem_toArray, List.getElem_cons_succ, List.getElem_cons_zero, List.setIfInBounds_toArray, List.set_cons_zero, List.set_cons_succ]
              refine wpAnyH_take (i := 24) (v := ?_) rfl (by kernel_rfl) (by kernel_rfl) (by kernel_rfl) (fun _ _ _ h => h) (Or.inl ⟨by rfl, ?_⟩) hHeld ?_
              rotate_left
              · intro w hSw
                (try dsimp only at hSw)
                go_simp
                all_goals with_reducible rfl
              simp only [Act.put, List.getElem_toArray, List.getElem_cons_succ, List.getElem_cons_zero, List.setIfInBounds_toArray, List.set_cons_zero, List.set_cons_succ]
              refine wpAnyH_take (i := 25) (v := ?_) rfl (by kernel_rfl) (by kernel_rfl) (by kernel_rfl) (fun _ _ _ h => h) (Or.inl ⟨by rfl, ?_⟩) hHeld ?_
              rotate_left
              · intro w hSw
                (try dsimp only at hSw)
                go_simp
                all_goals with_reducible rfl
              simp only [Act.put, List.getElem_toArray, List.getElem_cons_succ, List.getElem_cons_zero, List.setIfInBounds_toArray, List.set_cons_zero, List.set_cons_succ]
              refine wpAnyH_done (by kernel_rfl) ?_ _
              clear hHeld
              go_wp2_with fail
              go_roundw
              case rel => exact ⟨j + 1, by omega, by go_num, ext_trans HB9.out HLB.out⟩
              case measure => simp [intOf]; omega
          · rw [if_neg (fun h => hk h.1)]
            have hkb : (xk == 0) = false := by rw [beq_eq_false_iff_ne]; exact hk
            clear hk
            have HLW := Lib.hid (show Below w9.heap.size w9 (w14).drew from (HE14).out.drew)
            have y7 := (HY9.out.step (HE14).out).1.cell (j := 7) rfl
            have t7 := (HX9.out.step (HE14).out).1.cell (j := 7) rfl
            go_upto_region 23 with fail
            refine wp_region_held_drew (S := (fun w' => w'.cell? ⟨w4.heap.size, 7, none⟩ = some (.slice x4 a.P.length y4) ∧ w'.cell? ⟨w.heap.size, 7, none⟩ = some (.slice a4 t.P.length k4))) (by kernel_rfl) ⟨y7, t7⟩ (fun hHeld => ?_)
            clear y7 t7
            refine wpAnyH_take (i := 0) (v := ?_) rfl (by kernel_rfl) (by kernel_rfl) (by kernel_rfl) (fun _ _ _ h => h) (Or.inl ⟨by rfl, ?_⟩) hHeld ?_
            rotate_left
            · intro w hSw
              (try dsimp only at hSw)
              go_simp
              all_goals with_reducible rfl
            simp only [Act.put, List.getElem_toArray, List.getElem_cons_succ, List.getElem_cons_zero, List.setIfInBounds_toArray, List.set_cons_zero, List.set_cons_succ]
            refine wpAnyH_take (i := 1) (v := ?_) rfl (by kernel_rfl) (by kernel_rfl) (by kernel_rfl) (fun _ _ _ h => h) (Or.inl ⟨by rfl, ?_⟩) hHeld ?_
            rotate_left
            · intro w hSw
              (try dsimp only at hSw)
              go_simp
              all_goals with_reducible rfl
            simp only [Act.put, List.getElem_toArray, List.getElem_cons_succ, List.getElem_cons_zero, List.setIfInBounds_toArray, List.set_cons_zero, List.set_cons_succ]
            refine wpAnyH_take (i := 2) (v := ?_) rfl (by kernel_rfl) (by kernel_rfl) (by kernel_rfl) (fun _ _ _ h => h) (Or.inl ⟨by rfl, ?_⟩) hHeld ?_
            rotate_left
            · intro w hSw
              (try dsimp only at hSw)
              go_simp
              all_goals with_reducible rfl
            simp only [Act.put, List.getElem_toArray, List.getElem_cons_succ, List.getElem_cons_zero, List.setIfInBounds_toArray, List.set_cons_zero, List.set_cons_succ]
            refine wpAnyH_take (i := 3) (v := ?_) rfl (by kernel_rfl) (by kernel_rfl) (by kernel_rfl) (fun _ _ _ h => h) (Or.inl ⟨by rfl, ?_⟩) hHeld ?_
            rotate_left
            · intro w hSw
              (try dsimp only at hSw)
              go_simp
              all_goals with_reducible rfl
            simp only [Act.put, List.getElem_toArray, List.getElem_cons_succ, List.getElem_cons_zero, List.setIfInBounds_toArray, List.set_cons_zero, List.set_cons_succ]
            refine wpAnyH_take (i := 4) (v := ?_) rfl (by kernel_rfl) (by kernel_rfl) (by kernel_rfl) (fun _ _ _ h => h) (Or.inl ⟨by rfl, ?_⟩) hHeld ?_
            rotate_left
            · intro w hSw
              (try dsimp only at hSw)
              go_simp
              all_goals with_reducible rfl
            simp only [Act.put, List.getElem_toArray, List.getElem_cons_succ, List.getElem_cons_zero, List.setIfInBounds_toArray, List.set_cons_zero, List.set_cons_succ]
            refine wpAnyH_take (i := 5) (v := ?_) rfl (by kernel_rfl) (by kernel_rfl) (by kernel_rfl) (fun _ _ _ h => h) (Or.inl ⟨by rfl, ?_⟩) hHeld ?_
            rotate_left
            · intro w hSw
              (try dsimp only at hSw)
              go_simp
              all_goals with_reducible rfl
            simp only [Act.put, List.getElem_toArray, List.getElem_cons_succ, List.getElem_cons_zero, List.setIfInBounds_toArray, List.set_cons_zero, List.set_cons_succ]
            refine wpAnyH_take (i := 6) (v := ?_) rfl (by kernel_rfl) (by kernel_rfl) (by kernel_rfl) (fun _ _ _ h => h) (Or.inl ⟨by rfl, ?_⟩) hHeld ?_
            rotate_left
            · intro w hSw
              (try dsimp only at hSw)
              go_simp
              all_goals with_reducible rfl
            simp only [Act.put, List.getElem_toArray, List.getElem_cons_succ, List.getElem_cons_zero, List.setIfInBounds_toArray, List.set_cons_zero, List.set_cons_succ]
            refine wpAnyH_take (i := 7) (v := ?_) rfl (by kernel_rfl) (by kernel_rfl) (by kernel_rfl) (fun _ _ _ h => h) (Or.inl ⟨by rfl, ?_⟩) hHeld ?_
            rotate_left
            · intro w hSw
              (try dsimp only at hSw)
              go_simp
              all_goals with_reducible rfl
            simp only [Act.put, List.getElem_toArray, List.getElem_cons_succ, List.getElem_cons_zero, List.setIfInBounds_toArray, List.set_cons_zero, List.set_cons_succ]
            refine wpAnyH_take (i := 8) (v := ?_) rfl (by kernel_rfl) (by kernel_rfl) (by kernel_rfl) (fun _ _ _ h => h) (Or.inl ⟨by rfl, ?_⟩) hHeld ?_
            rotate_left
            · intro w hSw
              (try dsimp only at hSw)
              go_simp
              all_goals with_reducible rfl
            simp only [Act.put, List.getElem_toArray, List.getElem_cons_succ, List.getElem_cons_zero, List.setIfInBounds_toArray, List.set_cons_zero, List.set_cons_succ]
            refine wpAnyH_take (i := 9) (v := ?_) rfl (by kernel_rfl) (by kernel_rfl) (by kernel_rfl) (fun _ _ _ h => h) (Or.inl ⟨by rfl, ?_⟩) hHeld ?_
            rotate_left
            · intro w hSw
              (try dsimp only at hSw)
              go_simp
              all_goals with_reducible rfl
            simp only [Act.put, List.getElem_toArray, List.getElem_cons_succ, List.getElem_cons_zero, List.setIfInBounds_toArray, List.set_cons_zero, List.set_cons_succ]
            refine wpAnyH_take (i := 10) (v := ?_) rfl (by kernel_rfl) (by kernel_rfl) (by kernel_rfl) (fun _ _ _ h => h) (Or.inl ⟨by rfl, ?_⟩) hHeld ?_
            rotate_left
            · intro w hSw
              (try dsimp only at hSw)
              go_simp
              all_goals with_reducible rfl
            simp only [Act.put, List.getElem_toArray, List.getElem_cons_succ, List.getElem_cons_zero, List.setIfInBounds_toArray, List.set_cons_zero, List.set_cons_succ]
            refine wpAnyH_take (i := 11) (v := ?_) rfl (by kernel_rfl) (by kernel_rfl) (by kernel_rfl) (fun _ _ _ h => h) (Or.inl ⟨by rfl, ?_⟩) hHeld ?_
            rotate_left
            · intro w hSw
              (try dsimp only at hSw)
              go_simp
              all_goals with_reducible rfl
            simp only [Act.put, List.getElem_toArray, List.getElem_cons_succ, List.getElem_cons_zero, List.setIfInBounds_toArray, List.set_cons_zero, List.set_cons_succ]
            refine wpAnyH_take (i := 12) (v := ?_) rfl (by kernel_rfl) (by kernel_rfl) (by kernel_rfl) (fun _ _ _ h => h) (Or.inl ⟨by rfl, ?_⟩) hHeld ?_
            rotate_left
            · intro w hSw
              (try dsimp only at hSw)
              go_simp
              all_goals with_reducible rfl
            simp only [Act.put, List.getElem_toArray, List.getElem_cons_succ, List.getElem_cons_zero, List.setIfInBounds_toArray, List.set_cons_zero, List.set_cons_succ]
            refine wpAnyH_take (i := 13) (v := ?_) rfl (by kernel_rfl) (by kernel_rfl) (by kernel_rfl) (fun _ _ _ h => h) (Or.inl ⟨by rfl, ?_⟩) hHeld ?_
            rotate_left
            · intro w hSw
              (try dsimp only at hSw)
              go_simp
              all_goals with_reducible rfl
            simp only [Act.put, List.getElem_toArray, List.getElem_cons_succ, List.getElem_cons_zero, List.setIfInBounds_toArray, List.set_cons_zero, List.set_cons_succ]
            refine wpAnyH_take (i := 14) (v := ?_) rfl (by kernel_rfl) (by kernel_rfl) (by kernel_rfl) (fun _ _ _ h => h) (Or.inl ⟨by rfl, ?_⟩) hHeld ?_
            rotate_left
            · intro w hSw
              (try dsimp only at hSw)
              go_simp
              all_goals with_reducible rfl
            simp only [Act.put, List.getElem_toArray, List.getElem_cons_succ, List.getElem_cons_zero, List.setIfInBounds_toArray, List.set_cons_zero, List.set_cons_succ]
            refine wpAnyH_take (i := 15) (v := ?_) rfl (by kernel_rfl) (by kernel_rfl) (by kernel_rfl) (fun _ _ _ h => h) (Or.inl ⟨by rfl, ?_⟩) hHeld ?_
            rotate_left
            · intro w hSw
              (try dsimp only at hSw)
              go_simp
              all_goals with_reducible rfl
            simp only [Act.put, List.getElem_toArray, List.getElem_cons_succ, List.getElem_cons_zero, List.setIfInBounds_toArray, List.set_cons_zero, List.set_cons_succ]
            refine wpAnyH_take (i := 16) (v := ?_) rfl (by kernel_rfl) (by kernel_rfl) (by kernel_rfl) (fun _ _ _ h => h) (Or.inl ⟨by rfl, ?_⟩) hHeld ?_
            rotate_left
            · intro w hSw
              (try dsimp only at hSw)
              go_simp
              all_goals with_reducible rfl
            simp only [Act.put, List.getElem_toArray, List.getElem_cons_succ, List.getElem_cons_zero, List.setIfInBounds_toArray, List.set_cons_zero, List.set_cons_succ]
            refine wpAnyH_take (i := 17) (v := ?_) rfl (by kernel_rfl) (by kernel_rfl) (by kernel_rfl) (fun _ _ _ h => h) (Or.inl ⟨by rfl, ?_⟩) hHeld ?_
            rotate_left
            · intro w hSw
              (try dsimp only at hSw)
              go_simp
              all_goals with_reducible rfl
            simp only [Act.put, List.getElem_toArray, List.getElem_cons_succ, List.getElem_cons_zero, List.setIfInBounds_toArray, List.set_cons_zero, List.set_cons_succ]
            refine wpAnyH_take (i := 18) (v := ?_) rfl (by kernel_rfl) (by kernel_rfl) (by kernel_rfl) (fun _ _ _ h => h) (Or.inl ⟨by rfl, ?_⟩) hHeld ?_
            rotate_left
            · intro w hSw
              (try dsimp only at hSw)
              go_simp
              all_goals with_reducible rfl
            simp only [Act.put, List.getElem_toArray, List.getElem_cons_succ, List.getElem_cons_zero, List.setIfInBounds_toArray, List.set_cons_zero, List.set_cons_succ]
            refine wpAnyH_take (i := 20) (v := ?_) rfl (by kernel_rfl) (by kernel_rfl) (by kernel_rfl) (fun _ _ _ h => h) (Or.inl ⟨by rfl, ?_⟩) hHeld ?_
            rotate_left
            · intro w hSw
              (try dsimp only at hSw)
              go_simp
              all_goals with_reducible rfl
            simp only [Act.put, List.getElem_toArray, List.getElem_cons_succ, List.getElem_cons_zero, List.setIfInBounds_toArray, List.set_cons_zero, List.set_cons_succ]
            refine wpAnyH_take (i := 21) (v := ?_) rfl (by kernel_rfl) (by kernel_rfl) (by kernel_rfl) (fun _ _ _ h => h) (Or.inl ⟨by rfl, ?_⟩) hHeld ?_
            rotate_left
            · intro w hSw
              (try dsimp only at hSw)
              go_simp
              all_goals with_reducible rfl
            simp only [Act.put, List.getElem_toArray, List.getElem_cons_succ, List.getElem_cons_zero, List.setIfInBounds_toArray, List.set_cons_zero, List.set_cons_succ]
            refine wpAnyH_take (i := 22) (v := ?_) rfl (by kernel_rfl) (by kernel_rfl) (by kernel_rfl) (fun _ _ _ h => h) (Or.inl ⟨by rfl, ?_⟩) hHeld ?_
            rotate_left
            · intro w hSw
              (try dsimp only at hSw)
              go_simp
              all_goals with_reducible rfl
            simp only [Act.put, List.getElem_toArray, List.getElem_cons_succ, List.getElem_cons_zero, List.setIfInBounds_toArray, List.set_cons_zero, List.set_cons_succ]
            refine wpAnyH_ready (rs := [19]) (by kernel_rfl) (by simp) ?_
            refine AllReadyH.cons (o := _) rfl (fun K hK => ?_) AllReadyH.nil
            go_simp
            refine ((HOA).out _ HLW.out).mono ?_
            rintro e wA ⟨rfl, hbA⟩
            have HLA1 := Lib.hid (ext_trans HLW.out hbA)
            clear hbA hHeld
            go_wp2_with fail
            refine hK.out _ _ (And.intro ((HY9.out.step HLA1.out).1.cell (j := 7) rfl) ((HX9.out.step HLA1.out).1.cell (j := 7) rfl)) (fun hHeld => ?_)
            clear hK
            try simp only [Act.put, List.getElem_toArray, List.getElem_cons_succ, List.getElem_cons_zero, List.setIfInBounds_toArray, List.set_cons_zero, List.set_cons_succ]
            refine wpAnyH_ready (rs := [23]) (by kernel_rfl) (by simp) ?_
            refine AllReadyH.cons (o := _) rfl (fun K hK => ?_) AllReadyH.nil
            go_simp
            refine ((HOT).out _ HLA1.out).mono ?_
            rintro e wB ⟨rfl, hbB⟩
            have HLB := Lib.hid (ext_trans HLA1.out hbB)
            clear hbB hHeld
            go_wp2_with fail
            refine hK.out _ _ (And.intro ((HY9.out.step HLB.out).1.cell (j := 7) rfl) ((HX9.out.step HLB.out).1.cell (j := 7) rfl)) (fun hHeld => ?_)
            clear hK
            try simp only [Act.put, List.getElem_toArray, List.getElem_cons_succ, List.getElem_cons_zero, List.setIfInBounds_toArray, List.set_cons_zero, List.set_cons_succ]
            refine wpAnyH_take (i := 24) (v := ?_) rfl (by kernel_rfl) (by kernel_rfl) (by kernel_rfl) (fun _ _ _ h => h) (Or.inl ⟨by rfl, ?_⟩) hHeld ?_
            rotate_left
            · intro w hSw
              (try dsimp only at hSw)
              go_simp
              all_goals with_reducible rfl
            simp only [Act.put, List.getElem_toArray, List.getElem_cons_succ, List.getElem_cons_zero, List.setIfInBounds_toArray, List.set_cons_zero, List.set_cons_succ]
            refine wpAnyH_take (i := 25) (v := ?_) rfl (by kernel_rfl) (by kernel_rfl) (by kernel_rfl) (fun _ _ _ h => h) (Or.inl ⟨by rfl, ?_⟩) hHeld ?_
            rotate_left
            · intro w hSw
              (try dsimp only at hSw)
              go_simp
              all_goals with_reducible rfl
            simp only [Act.put, List.getElem_toArray, List.getElem_cons_succ, List.getElem_cons_zero, List.setIfInBounds_toArray, List.set_cons_zero, List.set_cons_succ]
            refine wpAnyH_done (by kernel_rfl) ?_ _
            clear hHeld
            go_wp2_with fail
            go_roundw
            case rel => exact ⟨j + 1, by omega, by go_num, ext_trans HB9.out HLB.out⟩
            case measure => simp [intOf]; omega
        · obtain rfl : j = a.V.length := by omega
          go_wp2_with fail
          go_roundw
          case rel => exact ⟨k + 1, by omega, by go_num, ext_trans HB7.out HB8.out⟩
          case measure => simp [intOf]; omega
    · obtain rfl : k = t.V.length := by omega
      go_wp2_with fail
      go_ret
      exact ⟨rfl, ext_trans HB5.out HB6.out⟩
end Go.Proofs.YtbiadennhnokhaaGreatDoor
