import Derived.Test.YtimeilkelnljnaaGreatDoorLw1
namespace Go.Proofs.YtimeilkelnljnaaGreatDoor
open Go.RowKit

theorem sEq_ne {k n k2 n2 : Int} {l m : List Ch} (h : ((k, n, l) : Sg) ≠ (k2, n2, m)) : sEq k n l k2 n2 m = false := by
  cases hq : sEq k n l k2 n2 m with
  | false => rfl
  | true =>
    exfalso
    apply h
    unfold sEq sameC at hq
    simp at hq
    obtain ⟨h1, h2, h3⟩ := hq
    rw [h1, h2, h3]
set_option maxHeartbeats 1600000 in
set_option maxRecDepth 100000 in
theorem law_AliasMinimal (v : Value) (L : List (Sg × Value)) (w : World) (hg : Glob w) (hs : Sigs w v L) :
    Calls Tryz.prog 6 #[v] w fun e w' => e = .returned (.bool true) ∧ Below w.heap.size w w' := by
  obtain ⟨a, cap, rfl, hc, hm⟩ := hs.s.shape
  have HG := Lib.hid hg
  have HS := Lib.hid hs
  clear hg hs hm
  go_enter Tryz.func6, Tryz.ntmps6
  go_wp2_with fail
  refine (law_awake29 w HG.out).mono ?_
  rintro e w1 ⟨rfl, hb1⟩
  have HB1 := Lib.hid hb1
  clear hb1
  go_wp2_with fail
  refine (ref_Few29 _ L 8 80 _ (HS.out.below HB1.out) (by omega) (by omega)).mono ?_
  rintro e w2 ⟨rfl, rfl⟩
  cases hfew : few29 (L.map Prod.fst) 8 80
  · clear hfew
    go_wp2_with fail
    go_ret
    exact ⟨rfl, HB1.out⟩
  obtain ⟨hfit, hl8, -⟩ := few29_fit hfew (by omega)
  have HF := Lib.hid hfit
  have hl : L.length ≤ 8 := by omega
  clear hfew hfit hl8
  go_wp2_with fail
  refine (al_Find _ L _ (HG.out.below HB1.out) (HS.out.below HB1.out) HF.out hl).mono ?_
  rintro e w3 ⟨v1, v2, rfl, ho1, ho2, hb3⟩
  obtain ⟨hin, hlen⟩ := find_in (L.map Prod.fst)
  obtain ⟨hmp, hsv⟩ := find_minP (L.map Prod.fst)
  rw [List.length_map] at hin hlen
  rw [← pickL_fst hin] at hmp hsv
  have HO1 := Lib.hid ho1
  have HIN := Lib.hid hin
  have HMP := Lib.hid hmp
  have HSV := Lib.hid hsv
  have HB3 := Lib.hid (ext_trans HB1.out hb3)
  obtain ⟨a1, c1, rfl, -, -⟩ := (SlR.of_own ho1).shape
  obtain ⟨a2, c2, rfl, -, -⟩ := ho2.shape
  generalize findR (L.map Prod.fst) = r at HO1 HIN HMP HSV hlen ⊢
  obtain ⟨st, ds⟩ := r
  dsimp only at HO1 HIN HMP HSV hlen ⊢
  clear ho1 ho2 hb3 hin hmp hsv HB1
  go_wp2_with fail
  refine (law_pick _ _ L st _ (HS.out.below HB3.out) (SlR.of_own HO1.out) HIN.out (by omega)).mono ?_
  rintro e w4 ⟨v4, rfl, ho4, hb4⟩
  have hsb : Sigs w4 v4 (pickL L st) := ⟨SlR.of_own ho4, fun x hx => (HS.out.m x (pickL_mem HIN.out x hx)).below (ext_trans HB3.out hb4)⟩
  have hbl : (pickL L st).length ≤ 8 := by rw [pickL_len]; omega
  have HFB := Lib.hid (fun x (hx : x ∈ pickL L st) => HF.out.2 x (pickL_mem HIN.out x hx))
  have HB4 := Lib.hid (ext_trans HB3.out hb4)
  generalize pickL L st = B at hsb HMP HSV hbl HFB
  obtain ⟨a4, c4, rfl, -, -⟩ := hsb.s.shape
  have HSB := Lib.hid hsb
  clear ho4 hb4 HB3 hsb HIN HO1
  go_wp2_with fail
  go_loopw [36] (fun i wr => ∃ (p : Nat), p ≤ B.length ∧ i = .int .i64 p ∧ Below w4.heap.size w4 wr) (fun i _ => B.length - (intOf i).toNat)
  case atStart => exact ⟨0, Nat.zero_le _, rfl, Below.refl _ _⟩
  case round =>
    obtain ⟨p, hp, rfl, hb⟩ := hrel
    obtain ⟨wA, rfl⟩ : ∃ wA : World, wA = wr := ⟨_, rfl⟩
    have HB := Lib.hid hb
    clear hb
    by_cases hlt : p < B.length
    · obtain ⟨b, o, rfl, y0, y1, y2, hy⟩ := (HSB.out.below HB.out).at hlt
      have HP := Lib.hid (show (B.map Prod.fst)[p]? = some B[p].1 by simp [hlt])
      have hvx := HSV.out B[p].1 (List.mem_map_of_mem (List.getElem_mem hlt))
      generalize B[p] = x at y0 y1 y2 hy HP hvx
      obtain ⟨⟨xk, xn, xl⟩, xv⟩ := x
      dsimp only at y0 y1 y2 hy HP hvx
      obtain ⟨xa, xc, rfl, -, -⟩ := hy.shape
      have hwx := sv_width hvx
      dsimp only at hwx
      have HY := Lib.hid hy
      have hba := (Below.refl wA.heap.size wA).alloc (Nat.le_refl _) (.cells #[.int .i64 xk, .int .i64 xn, .slice xa xl.length xc] 37)
      have HXA := Lib.hid (OwnRow.fresh wA #[.int .i64 xk, .int .i64 xn, .slice xa xl.length xc] 37)
      have hza : wA.heap.size < (wA.alloc (.cells #[.int .i64 xk, .int .i64 xn, .slice xa xl.length xc] 37)).heap.size := by simp
      have HBA := Lib.hid hba
      clear hy hvx hba
      obtain ⟨wo, hwo⟩ : ∃ wo, wo = wA.alloc (.cells #[.int .i64 xk, .int .i64 xn, .slice xa xl.length xc] 37) := ⟨_, rfl⟩
      rw [← hwo] at HXA hza HBA
      go_wp2_with fail
      rw [← hwo]
      clear hwo y0 y1 y2
      go_loopw [43] (fun i w5 => ∃ (q : Nat), q ≤ B.length ∧ i = .int .i64 q ∧ Below wo.heap.size wo w5) (fun i _ => B.length - (intOf i).toNat)
      case atStart => exact ⟨0, Nat.zero_le _, rfl, Below.refl _ _⟩
      case round =>
        obtain ⟨q, hq, rfl, hb5⟩ := hrel
        obtain ⟨w5, rfl⟩ : ∃ w5 : World, w5 = wr := ⟨_, rfl⟩
        have HB5 := Lib.hid hb5
        have HBW := Lib.hid (HB.out.trans ((HBA.out.trans (hb5.mono (by omega))).mono HB.out.size))
        clear hb5
        by_cases hlq : q < B.length
        · obtain ⟨b2, o2, e2, z0, z1, z2, hz⟩ := (HSB.out.below HBW.out).at hlq
          injection e2 with e2
          injection e2 with e2 e3 _
          subst e2 e3
          have HQ := Lib.hid (show (B.map Prod.fst)[q]? = some B[q].1 by simp [hlq])
          have hvy := HSV.out B[q].1 (List.mem_map_of_mem (List.getElem_mem hlq))
          have HFY := Lib.hid (HFB.out B[q] (List.getElem_mem hlq))
          generalize B[q] = y at z0 z1 z2 hz HQ hvy HFY
          obtain ⟨⟨yk, yn, yl⟩, yv⟩ := y
          dsimp only at z0 z1 z2 hz HQ hvy HFY
          obtain ⟨ya, yc, rfl, -, -⟩ := hz.shape
          have hwy := sv_width hvy
          dsimp only at hwy
          have HZ := Lib.hid hz
          have x0 := (HXA.out.below HB5.out hza).cell (j := 0) rfl
          have x1 := (HXA.out.below HB5.out hza).cell (j := 1) rfl
          have x2 := (HXA.out.below HB5.out hza).cell (j := 2) rfl
          have x0 := cell_alloc x0 (.cells #[.int .i64 yk, .int .i64 yn, .slice ya yl.length yc] 37)
          have x1 := cell_alloc x1 (.cells #[.int .i64 yk, .int .i64 yn, .slice ya yl.length yc] 37)
          have x2 := cell_alloc x2 (.cells #[.int .i64 yk, .int .i64 yn, .slice ya yl.length yc] 37)
          clear hz hvy
          by_cases hpq : p = q
          · subst hpq
            go_wp2_with fail
            go_roundw
            case rel => exact ⟨p + 1, by omega, by go_num, HB5.out.alloc HB5.out.size _⟩
            case measure => simp [intOf]; omega
          have hpb : ((p : Int) == (q : Int)) = false := by rw [beq_eq_false_iff_ne]; omega
          by_cases hk : xk ≠ yk
          · have hkb : (xk != yk) = true := by rw [bne_iff_ne]; exact hk
            clear hpq hk
            go_wp2_with fail
            go_roundw
            case rel => exact ⟨q + 1, by omega, by go_num, HB5.out.alloc HB5.out.size _⟩
            case measure => simp [intOf]; omega
          obtain rfl : xk = yk := Classical.not_not.1 hk
          have hkb : (xk != xk) = false := by simp
          have HNE := Lib.hid (HMP.out p q _ _ HP.out HQ.out hpq)
          have hse := sEq_ne HNE.out.1
          have hwb := (Below.refl w5.heap.size w5).alloc (Nat.le_refl _) (.cells #[.int .i64 xk, .int .i64 yn, .slice ya yl.length yc] 37)
          have HXB := Lib.hid (OwnRow.fresh w5 #[.int .i64 xk, .int .i64 yn, .slice ya yl.length yc] 37)
          have hzb : w5.heap.size < (w5.alloc (.cells #[.int .i64 xk, .int .i64 yn, .slice ya yl.length yc] 37)).heap.size := by simp
          have HBB := Lib.hid hwb
          clear hpq hk hwb
          obtain ⟨wi, hwi⟩ : ∃ wi, wi = w5.alloc (.cells #[.int .i64 xk, .int .i64 yn, .slice ya yl.length yc] 37) := ⟨_, rfl⟩
          rw [← hwi] at HXB hzb HBB
          have HYI := Lib.hid (HY.out.below (HBA.out.trans (((HB5.out.trans (HBB.out.mono HB5.out.size))).mono (by omega))))
          have HZI := Lib.hid (HZ.out.below HBB.out)
          have HXI := Lib.hid ((HXA.out.below HB5.out hza).below HBB.out (by have := HB5.out.size; omega))
          go_wp2_with fail
          rw [← hwi]
          refine (sig_Equal xk xn xk yn _ _ xl yl _ HYI.out HZI.out).mono ?_
          rw [hse]
          rintro e w6 ⟨rfl, hb6⟩
          have hzi : wo.heap.size < wi.heap.size := by have := HB5.out.size; omega
          have hzi2 : wA.heap.size < wi.heap.size := by omega
          have HB6 := Lib.hid hb6
          have x0 := (HXI.out.below hb6 hzi2).cell (j := 0) rfl
          have x1 := (HXI.out.below hb6 hzi2).cell (j := 1) rfl
          have x2 := (HXI.out.below hb6 hzi2).cell (j := 2) rfl
          have pb0 := (HXB.out.below hb6 hzb).cell (j := 0) rfl
          have pb1 := (HXB.out.below hb6 hzb).cell (j := 1) rfl
          have pb2 := (HXB.out.below hb6 hzb).cell (j := 2) rfl
          have hw1 : IntKind.i64.wrap (yn - xn) = yn - xn := IntWalk.i64_in _ (by omega)
          have hw2 : IntKind.i64.wrap (yn - xn + 1) = yn - xn + 1 := IntWalk.i64_in _ (by omega)
          clear hb6 hwi hse z0 z1 z2
          go_wp2_with fail
          go_loopw [68] (fun i w7 => ∃ (f : Nat), f ≤ (max 0 (yn - xn + 1)).toNat ∧ i = .int .i64 f ∧ Below w6.heap.size w6 w7) (fun i _ => (max 0 (yn - xn + 1)).toNat - (intOf i).toNat)
          case atStart => exact ⟨0, Nat.zero_le _, rfl, Below.refl _ _⟩
          case round =>
            obtain ⟨f, hf, rfl, hb7⟩ := hrel
            obtain ⟨w7, rfl⟩ : ∃ w7 : World, w7 = wr := ⟨_, rfl⟩
            have HB7 := Lib.hid (ext_trans HB6.out hb7)
            have HB67 := Lib.hid hb7
            have HBL := Lib.hid (ext_trans (ext_trans HBW.out HBB.out) HB7.out)
            clear hb7 x0 x1 x2 pb0 pb1 pb2
            by_cases hlf : (f : Int) < max 0 (yn - xn + 1)
            · have x0 := (HXI.out.below HB7.out hzi2).cell (j := 0) rfl
              have x1 := (HXI.out.below HB7.out hzi2).cell (j := 1) rfl
              have x2 := (HXI.out.below HB7.out hzi2).cell (j := 2) rfl
              have pb0 := (HXB.out.below HB7.out hzb).cell (j := 0) rfl
              have pb1 := (HXB.out.below HB7.out hzb).cell (j := 1) rfl
              have pb2 := (HXB.out.below HB7.out hzb).cell (j := 2) rfl
              have hfb : decide ((f : Int) < max 0 (yn - xn + 1)) = true := by rw [decide_eq_true_iff]; exact hlf
              have hns := HNE.out.2 f (by first | rfl | trivial)
              have hrf := slice_fit xk yn yl (f : Int) xn
              try dsimp only at hns
              have HSL := Lib.hid (sig_Slice xk yn (.slice ya yl.length yc) yl (f : Int) xn w7 (HG.out.below (ext_trans HB4.out HBL.out)) (HZI.out.below HB7.out) HFY.out)
              generalize sliceR xk yn yl (f : Int) xn = r at hns hrf HSL
              obtain ⟨⟨rk, rn, rl⟩, re⟩ := r
              dsimp only at hns hrf HSL
              have HNS := Lib.hid hns
              have HRF := Lib.hid hrf
              clear hns hrf
              go_wp2_with fail
              refine HSL.out.mono ?_
              rintro e w8 ⟨v8, rfl, ho8, hb8⟩
              dsimp only at ho8 ⊢
              obtain ⟨a8, c8, rfl, -, -⟩ := (SlR.of_own ho8).shape
              have hws := (Below.refl w8.heap.size w8).alloc (Nat.le_refl _) (.cells #[.int .i64 rk, .int .i64 rn, .slice a8 rl.length c8] 37)
              have HXS := Lib.hid (OwnRow.fresh w8 #[.int .i64 rk, .int .i64 rn, .slice a8 rl.length c8] 37)
              have hzs : w8.heap.size < (w8.alloc (.cells #[.int .i64 rk, .int .i64 rn, .slice a8 rl.length c8] 37)).heap.size := by simp
              have HS8 := Lib.hid ((SlR.of_own ho8).below hws)
              have HB8 := Lib.hid (ext_trans hb8 hws)
              have HY8 := Lib.hid (HYI.out.below (ext_trans HB7.out (ext_trans hb8 hws)))
              have HX8 := Lib.hid (HXI.out.below (ext_trans HB7.out (ext_trans hb8 hws)) hzi2)
              have HG8 := Lib.hid (HG.out.below (ext_trans (ext_trans HB4.out HBL.out) (ext_trans hb8 hws)))
              obtain ⟨ws, hwse⟩ : ∃ ws, ws = w8.alloc (.cells #[.int .i64 rk, .int .i64 rn, .slice a8 rl.length c8] 37) := ⟨_, rfl⟩
              rw [← hwse] at HXS hzs HS8 HB8 HY8 HX8 HG8
              obtain ⟨y, hyy⟩ : ∃ y, y = invR rk rn rl := ⟨_, rfl⟩
              have HIV := Lib.hid (sig_Invert rk rn (.slice a8 rl.length c8) rl ws HG8.out HS8.out HRF.out)
              rw [← hyy] at HIV HNS
              obtain ⟨⟨yyk, yyn, yyl⟩, ye⟩ := y
              dsimp only at HNS HIV
              clear ho8 hb8 hws hyy x0 x1 x2 pb0 pb1 pb2
              go_wp2_with fail
              rw [← hwse]
              refine HIV.out.mono ?_
              rintro e w9 ⟨v9, rfl, ho9, hb9⟩
              dsimp only at ho9 ⊢
              obtain ⟨a9, c9, rfl, -, -⟩ := (SlR.of_own ho9).shape
              have hwt := (Below.refl w9.heap.size w9).alloc (Nat.le_refl _) (.cells #[.int .i64 yyk, .int .i64 yyn, .slice a9 yyl.length c9] 37)
              have HXT := Lib.hid (OwnRow.fresh w9 #[.int .i64 yyk, .int .i64 yyn, .slice a9 yyl.length c9] 37)
              have hzt : w9.heap.size < (w9.alloc (.cells #[.int .i64 yyk, .int .i64 yyn, .slice a9 yyl.length c9] 37)).heap.size := by simp
              have HS9 := Lib.hid ((SlR.of_own ho9).below hwt)
              have HB9 := Lib.hid (ext_trans HB8.out (ext_trans hb9 hwt))
              have HY9 := Lib.hid (HY8.out.below (ext_trans hb9 hwt))
              have HSS9 := Lib.hid (HS8.out.below (ext_trans hb9 hwt))
              have hx9 := HX8.out.below (ext_trans hb9 hwt) (by have := HB8.out.size; have := HB7.out.size; omega)
              have hxs9 := HXS.out.below (ext_trans hb9 hwt) hzs
              have HX9 := Lib.hid hx9
              have HXS9 := Lib.hid hxs9
              obtain ⟨wt, hwte⟩ : ∃ wt, wt = w9.alloc (.cells #[.int .i64 yyk, .int .i64 yyn, .slice a9 yyl.length c9] 37) := ⟨_, rfl⟩
              rw [← hwte] at HXT hzt HS9 HB9 HY9 HSS9 hx9 hxs9 HX9 HXS9
              have hwz : w8.heap.size < wt.heap.size := by have := hb9.size; omega
              have hwz2 : wA.heap.size < wt.heap.size := by have := HB9.out.size; have := HB7.out.size; omega
              have x0 := hx9.cell (j := 0) rfl
              have x1 := hx9.cell (j := 1) rfl
              have x2 := hx9.cell (j := 2) rfl
              have s0 := hxs9.cell (j := 0) rfl
              have s1 := hxs9.cell (j := 1) rfl
              have s2 := hxs9.cell (j := 2) rfl
              clear ho9 hb9 hwt hx9 hxs9 hwse
              by_cases hre : re ≠ 0
              · have hrb : (re == 0) = false := by rw [beq_eq_false_iff_ne]; exact hre
                clear hre
                rw [hwte] at HB9
                go_wp2_with fail
                go_roundw
                case rel => exact ⟨f + 1, by omega, by go_num, ext_trans HB67.out HB9.out⟩
                case measure => simp [intOf]; omega
              obtain rfl : re = 0 := Classical.not_not.1 hre
              obtain ⟨n1, n2⟩ := HNS.out rfl
              have hs1 := sEq_ne n1
              have HN2 := Lib.hid n2
              clear hre n1 n2
              rw [hwte] at x0 x1 x2 s0 s1 s2
              go_wp2_with fail
              rw [← hwte] at x0 x1 x2 s0 s1 s2 ⊢
              refine (sig_Equal xk xn rk rn _ _ xl rl _ HY9.out HSS9.out).mono ?_
              rw [hs1]
              rintro e wu ⟨rfl, hbu⟩
              have HBU := Lib.hid (ext_trans HB9.out hbu)
              by_cases hye : ye ≠ 0
              · have hyb : (ye == 0) = false := by rw [beq_eq_false_iff_ne]; exact hye
                clear hye x0 x1 x2 s0 s1 s2 hbu
                go_wp2_with fail
                go_roundw
                case rel => exact ⟨f + 1, by omega, by go_num, ext_trans HB67.out HBU.out⟩
                case measure => simp [intOf]; omega
              obtain rfl : ye = 0 := Classical.not_not.1 hye
              have hs2 := sEq_ne (HN2.out rfl)
              have x0 := (HX9.out.below hbu hwz2).cell (j := 0) rfl
              have x1 := (HX9.out.below hbu hwz2).cell (j := 1) rfl
              have x2 := (HX9.out.below hbu hwz2).cell (j := 2) rfl
              have q0 := (HXT.out.below hbu hzt).cell (j := 0) rfl
              have q1 := (HXT.out.below hbu hzt).cell (j := 1) rfl
              have q2 := (HXT.out.below hbu hzt).cell (j := 2) rfl
              have HYU := Lib.hid (HY9.out.below hbu)
              have HSU := Lib.hid (HS9.out.below hbu)
              clear hye s0 s1 s2 hbu
              go_wp2_with fail
              refine (sig_Equal xk xn yyk yyn _ _ xl yyl _ HYU.out HSU.out).mono ?_
              rw [hs2]
              rintro e wv ⟨rfl, hbv⟩
              have HBV := Lib.hid (ext_trans HBU.out hbv)
              clear x0 x1 x2 q0 q1 q2 hbv
              go_wp2_with fail
              go_roundw
              case rel => exact ⟨f + 1, by omega, by go_num, ext_trans HB67.out HBV.out⟩
              case measure => simp [intOf]; omega
            · have hfb : decide ((f : Int) < max 0 (yn - xn + 1)) = false := by rw [decide_eq_false_iff_not]; exact hlf
              go_wp2_with fail
              go_roundw
              case rel => exact ⟨q + 1, by omega, by go_num, ext_trans HB5.out (ext_trans HBB.out HB7.out)⟩
              case measure => simp [intOf]; omega
        · go_wp2_with fail
          go_roundw
          case rel => exact ⟨p + 1, by omega, by go_num, HB.out.trans ((HBA.out.trans (HB5.out.mono (by omega))).mono HB.out.size)⟩
          case measure => simp [intOf]; omega
    · go_wp2_with fail
      go_ret
      exact ⟨rfl, ext_trans HB4.out HB.out⟩
end Go.Proofs.YtimeilkelnljnaaGreatDoor
