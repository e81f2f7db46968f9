import Derived.Test.YtimeilkelnljnaaGreatDoorRst0
namespace Go.Proofs.YtimeilkelnljnaaGreatDoor
open Go.RowKit

theorem find_bad {L : List Sg} (h : L.all svS = false) : findR L = ([], []) := by
  unfold findR; rw [if_neg (by rw [h]; simp)]
theorem find_good {L : List Sg} (h : L.all svS = true) : findR L = (storedR L, dersR L) := by
  unfold findR; rw [if_pos h]

set_option maxHeartbeats 16000000 in
set_option maxRecDepth 100000 in
theorem law_AliasRestores (v : Value) (L : List (Sg × Value)) (w : World) (hg : Glob w) (hs : Sigs w v L) :
    Calls Tryz.prog 7 #[v] w fun e w' => e = .returned (.bool true) ∧ Below w.heap.size w w' := by
  obtain ⟨a, cap, rfl, hc, hm⟩ := hs.s.shape
  have HG := Lib.hid hg
  have HS := Lib.hid hs
  clear hg hs hm
  go_enter Tryz.func7, Tryz.ntmps7
  go_wp2_with fail
  refine (law_awake29 w HG.out).mono ?_
  rintro e w1 ⟨rfl, hb1⟩
  have HB1 := Lib.hid hb1
  clear hb1
  go_wp2_with fail
  refine (ref_Few29 _ L 8 80 _ (HS.out.below HB1.out) (by omega) (by omega)).mono ?_
  rintro e w2 ⟨rfl, rfl⟩
  cases hfew : few29 (L.map Prod.fst) 8 80
  · clear hfew
    go_wp2_with fail
    go_ret
    exact ⟨rfl, HB1.out⟩
  obtain ⟨hfit, hl8, -⟩ := few29_fit hfew (by omega)
  have HF := Lib.hid hfit
  have hl : L.length ≤ 8 := by omega
  clear hfew hfit hl8
  have HFI := Lib.hid (al_Find _ L _ (HG.out.below HB1.out) (HS.out.below HB1.out) HF.out hl)
  cases hall : (L.map Prod.fst).all svS
  · rw [find_bad hall] at HFI
    go_wp2_with fail
    refine HFI.out.mono ?_
    rintro e w3 ⟨v1, v2, rfl, ho1, ho2, hb3⟩
    have HB3 := Lib.hid (ext_trans HB1.out hb3)
    obtain ⟨a1, c1, rfl, -, -⟩ := (SlR.of_own (show w3.ownsRow w2.heap.size 3 1 v1 0 [] from ho1)).shape
    obtain ⟨a2, c2, rfl, -, -⟩ := (show SlR w3 v2 0 [] from ho2).shape
    have HCN := Lib.hid (con_R _ L w3 (HG.out.below HB3.out) (HS.out.below HB3.out) HF.out)
    rw [hall] at HCN
    clear ho1 ho2 hb3 hall
    go_wp2_with fail
    refine HCN.out.mono ?_
    rintro e w4 ⟨rfl, hb4⟩
    have HB4 := Lib.hid (ext_trans HB3.out hb4)
    clear hb4
    go_wp2_with fail
    go_ret
    exact ⟨rfl, HB4.out⟩
  have hv := allV_of hall
  have HFG := Lib.hid (find_good hall)
  rw [HFG.out] at HFI
  have HV := Lib.hid hv
  have HALL := Lib.hid hall
  clear hv hall
  go_wp2_with fail
  refine HFI.out.mono ?_
  rintro e w3 ⟨v1, v2, rfl, ho1, ho2, hb3⟩
  dsimp only at ho1 ho2
  have hin : ∀ k ∈ storedR (L.map Prod.fst), k < L.length := fun k hk => by have := stored_lt hk; rwa [List.length_map] at this
  have hlen : (storedR (L.map Prod.fst)).length ≤ L.length := by
    have := base_len (L.map Prod.fst)
    unfold baseR at this
    rwa [List.length_map, List.length_map] at this
  have hdl : (dersR (L.map Prod.fst)).length = L.length := by rw [ders_len, List.length_map]
  have HVAL := Lib.hid (find_valid HV.out (by rw [List.length_map]; omega))
  have HRES := Lib.hid (find_rest HV.out (by rw [List.length_map]; omega))
  have HSO := Lib.hid (stored_sorted (L.map Prod.fst))
  have HOWN := Lib.hid (fun (j i : Nat) (h : (storedR (L.map Prod.fst))[j]? = some i) => find_own HV.out h)
  have HMIN := Lib.hid (fun (i : Nat) (s : Sg) (d : Dv) (hs : (L.map Prod.fst)[i]? = some s) (hd : (dersR (L.map Prod.fst))[i]? = some d) => find_minus HV.out hs hd)
  have HBASE := Lib.hid (show (pickL L (storedR (L.map Prod.fst))).map Prod.fst = baseR (L.map Prod.fst) from pickL_fst hin)
  generalize storedR (L.map Prod.fst) = st at ho1 hin hlen HSO HOWN HBASE ⊢
  generalize dersR (L.map Prod.fst) = ds at ho2 hdl HVAL HRES HOWN HMIN ⊢
  obtain ⟨a1, c1, rfl, -, -⟩ := (SlR.of_own ho1).shape
  obtain ⟨a2, c2, rfl, -, -⟩ := ho2.shape
  have HO1 := Lib.hid (SlR.of_own ho1)
  have HO2 := Lib.hid ho2
  have HIN := Lib.hid hin
  have HDL := Lib.hid hdl
  have HB3 := Lib.hid (ext_trans HB1.out hb3)
  have HCN := Lib.hid (con_R _ L w3 (HG.out.below HB3.out) (HS.out.below HB3.out) HF.out)
  rw [HALL.out] at HCN
  clear ho1 ho2 hin hb3 hdl HFI HFG
  go_wp2_with fail
  refine HCN.out.mono ?_
  rintro e w4 ⟨rfl, hb4⟩
  have HB34 := Lib.hid hb4
  have HB4 := Lib.hid (ext_trans HB3.out hb4)
  clear hb4
  go_wp2_with fail
  refine (law_pick _ _ L st _ (HS.out.below HB4.out) (HO1.out.below HB34.out) HIN.out (by omega)).mono ?_
  rintro e w5 ⟨v5, rfl, ho5, hb5⟩
  have hsb : Sigs w5 v5 (pickL L st) := ⟨SlR.of_own ho5, fun x hx => (HS.out.m x (pickL_mem HIN.out x hx)).below (ext_trans HB4.out hb5)⟩
  have hfb : FitS (pickL L st) := ⟨by rw [pickL_len]; omega, fun x hx => HF.out.2 x (pickL_mem HIN.out x hx)⟩
  have HB5 := Lib.hid (ext_trans HB4.out hb5)
  have HB35 := Lib.hid (ext_trans HB34.out hb5)
  generalize pickL L st = B at hsb hfb HBASE
  obtain ⟨a5, c5, rfl, -, -⟩ := hsb.s.shape
  have HSB := Lib.hid hsb
  have HFB := Lib.hid hfb
  have hdb : ((ds.length : Int) != (L.length : Int)) = false := by rw [HDL.out]; simp
  have HIS := Lib.hid (sorted_yes _ st w5 (HO1.out.below HB35.out) (by omega) HSO.out)
  clear ho5 hb5 hsb hfb
  go_wp2_with fail
  refine HIS.out.mono ?_
  rintro e w6 ⟨rfl, hb6⟩
  have HB6 := Lib.hid (ext_trans HB5.out hb6)
  have HB36 := Lib.hid (ext_trans HB35.out hb6)
  have HB56 := Lib.hid hb6
  clear hb6
  go_wp2_with fail
  refine (clone_nats _ st w6 (HO1.out.below HB36.out) (by omega)).mono ?_
  rintro e w7 ⟨v7, rfl, ho7, hb7⟩
  have HB7 := Lib.hid (ext_trans HB6.out hb7)
  have HB37 := Lib.hid (ext_trans HB36.out hb7)
  have HB57 := Lib.hid (ext_trans HB56.out hb7)
  have HCM := Lib.hid (compact_nats w6.heap.size v7 st w7 ho7 hb7.size (by omega) HSO.out)
  have hz67 := hb7.size
  obtain ⟨a7, c7, rfl, -, -⟩ := (SlR.of_own ho7).shape
  clear ho7 hb7
  go_wp2_with fail
  refine HCM.out.mono ?_
  rintro e w8 ⟨⟨a8, c8, rfl⟩, hb8⟩
  have HB8 := Lib.hid (HB7.out.trans (hb8.mono HB6.out.size))
  have HB38 := Lib.hid (HB37.out.trans (hb8.mono HB36.out.size))
  have HB58 := Lib.hid (HB57.out.trans (hb8.mono HB56.out.size))
  have HVA := Lib.hid (al_Valid _ _ _ L B ds w8 (HS.out.below HB8.out) (HSB.out.below HB58.out) (HO2.out.below HB38.out))
  rw [HBASE.out, HVAL.out] at HVA
  have hss : ((st.length : Int) != (st.length : Int)) = false := by simp
  clear hb8 HIS HCN HCM
  go_wp2_with fail
  refine HVA.out.mono ?_
  rintro e w9 ⟨rfl, hb9⟩
  have HB9 := Lib.hid (ext_trans HB8.out hb9)
  have HB39 := Lib.hid (ext_trans HB38.out hb9)
  have HB59 := Lib.hid (ext_trans HB58.out hb9)
  clear hb9 HVA
  go_wp2_with fail
  go_loopw [69] (fun i wr => ∃ (p : Nat), p ≤ st.length ∧ i = .int .i64 p ∧ Below w9.heap.size w9 wr) (fun i _ => st.length - (intOf i).toNat)
  case atStart => exact ⟨0, Nat.zero_le _, rfl, Below.refl _ _⟩
  case round =>
    obtain ⟨p, hp, rfl, hb⟩ := hrel
    have HB := Lib.hid hb
    clear hb
    by_cases hlt : p < st.length
    · obtain ⟨b, o, c', hvv, -, -, hcell⟩ := (HO1.out.below (ext_trans HB39.out HB.out)).at (by omega)
      injection hvv with e1 e2 e3
      subst e1
      clear e2 e3
      obtain ⟨kk, hkk⟩ : ∃ kk, st[p] = kk := ⟨_, rfl⟩
      have hki : kk < L.length := hkk ▸ HIN.out st[p] (List.getElem_mem hlt)
      have hkc := hcell p (.int .i64 (kk : Int)) (by simp [nats, hlt, hkk])
      have hkd : kk < ds.length := by rw [HDL.out]; exact hki
      have hat := HOWN.out p kk (by rw [List.getElem?_eq_getElem hlt, hkk])
      rw [List.getElem?_eq_getElem hkd] at hat
      have hat := Option.some.inj hat
      obtain ⟨b3, o3, rfl, z0, z1, z2⟩ := dv_at (HO2.out.below (ext_trans HB39.out HB.out)) hkd
      rw [hat] at z0 z1 z2
      dsimp only at z0 z1 z2
      clear hcell hat hkk
      go_wp2_with fail
      go_roundw
      case rel => exact ⟨p + 1, by omega, by go_num, HB.out⟩
      case measure => simp [intOf]; omega
    · obtain rfl : p = st.length := by omega
      have HB10 := Lib.hid (ext_trans HB9.out HB.out)
      have HB310 := Lib.hid (ext_trans HB39.out HB.out)
      have HB510 := Lib.hid (ext_trans HB59.out HB.out)
      obtain ⟨wa, rfl⟩ : ∃ wa : World, wa = wr := ⟨_, rfl⟩
      go_wp2_with fail
      go_loopw [84] (fun i wr => ∃ (p : Nat), p ≤ L.length ∧ i = .int .i64 p ∧ Below wa.heap.size wa wr) (fun i _ => L.length - (intOf i).toNat)
      case atStart => exact ⟨0, Nat.zero_le _, rfl, Below.refl _ _⟩
      case round =>
        obtain ⟨p, hp, rfl, hb⟩ := hrel
        have HBA := Lib.hid hb
        clear hb
        by_cases hlt : p < L.length
        · have hlt2 : p < ds.length := by rw [HDL.out]; exact hlt
          obtain ⟨b, o, rfl, y0, y1, y2, hy⟩ := (HS.out.below (ext_trans HB10.out HBA.out)).at hlt
          obtain ⟨b3, o3, rfl, z0, z1, z2⟩ := dv_at (HO2.out.below (ext_trans HB310.out HBA.out)) hlt2
          have hmi := HMIN.out p L[p].1 ds[p] (by simp [hlt]) (List.getElem?_eq_getElem hlt2)
          generalize L[p] = x at y0 y1 y2 hy hmi
          generalize ds[p] = d at z0 z1 z2 hmi
          obtain ⟨⟨xk, xn, xl⟩, xv⟩ := x
          obtain ⟨do_, df, di⟩ := d
          dsimp only at y0 y1 y2 hy z0 z1 z2 hmi
          obtain ⟨xa, xc, rfl, -, -⟩ := hy.shape
          obtain ⟨bo, h1, h2⟩ : ∃ bo : Bool, (do_ == -1) = bo ∧ ((xl.length : Int) == 0) = bo := by
            by_cases h : do_ = -1
            · have := hmi.1 h
              subst this
              exact ⟨true, by rw [h]; rfl, rfl⟩
            · refine ⟨false, by rw [beq_eq_false_iff_ne]; exact h, ?_⟩
              rw [beq_eq_false_iff_ne]
              intro h3
              exact h (hmi.2 (List.eq_nil_of_length_eq_zero (by omega)))
          have z0 := cell_alloc z0 (.cells #[.int .i64 xk, .int .i64 xn, .slice xa xl.length xc] 37)
          have hba := HBA.out.alloc HBA.out.size (.cells #[.int .i64 xk, .int .i64 xn, .slice xa xl.length xc] 37)
          have s2 := (OwnRow.fresh wr #[.int .i64 xk, .int .i64 xn, .slice xa xl.length xc] 37).cell (j := 2) rfl
          have HBA2 := Lib.hid hba
          clear hmi hy z1 z2 hba
          cases bo
          · go_wp2_with fail
            go_quiet (fail)
            go_wp2_with fail
            go_roundw
            case rel => exact ⟨p + 1, by omega, by go_num, below_drewN HBA2.out _⟩
            case measure => simp [intOf]; omega
          · go_wp2_with fail
            go_quiet (fail)
            go_wp2_with fail
            go_roundw
            case rel => exact ⟨p + 1, by omega, by go_num, below_drewN HBA2.out _⟩
            case measure => simp [intOf]; omega
        · obtain rfl : p = L.length := by omega
          have HB11 := Lib.hid (ext_trans HB10.out HBA.out)
          have HRS := Lib.hid (al_Restore _ _ _ L B ds wr (HG.out.below HB11.out) (HS.out.below HB11.out) (HSB.out.below (ext_trans HB510.out HBA.out)) (HO2.out.below (ext_trans HB310.out HBA.out)) HFB.out)
          rw [HBASE.out, HRES.out] at HRS
          go_wp2_with fail
          refine HRS.out.mono ?_
          rintro e w12 ⟨v12, M, rfl, hM, ho12, hb12⟩
          have HB12 := Lib.hid (ext_trans HB11.out hb12)
          have HSI := Lib.hid (ref_Signals _ _ M L w12 ho12.sigs (HS.out.below HB12.out))
          rw [hM, decide_eq_true (show L.map Prod.fst = L.map Prod.fst from rfl)] at HSI
          obtain ⟨a12, c12, rfl, -, -⟩ := ho12.sigs.s.shape
          clear hM ho12 hb12
          go_wp2_with fail
          refine HSI.out.mono ?_
          rintro e w13 ⟨rfl, hb13⟩
          have HB13 := Lib.hid (ext_trans HB12.out hb13)
          clear hb13
          go_wp2_with fail
          go_ret
          exact ⟨rfl, HB13.out⟩
end Go.Proofs.YtimeilkelnljnaaGreatDoor
