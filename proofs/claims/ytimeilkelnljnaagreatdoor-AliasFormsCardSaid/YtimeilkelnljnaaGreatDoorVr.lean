import Derived.Test.YtimeilkelnljnaaGreatDoorVld
import Derived.Maps.AppendAt
namespace Go.Proofs.YtimeilkelnljnaaGreatDoor
open Go.RowKit

/-! the reference's Restore -/
set_option maxHeartbeats 3200000 in
set_option maxRecDepth 100000 in
theorem ref_Restore29 (v v2 v3 : Value) (L S : List (Sg × Value)) (D : List Dv) (w : World) (hs : Sigs w v L) (ht : Sigs w v2 S) (hd : SlR w v3 D.length (dvs D)) (hf : FitS S) :
    Calls Tryz.prog 17 #[v, v2, v3] w fun e w' => ∃ v' M, e = .returned (.tuple #[v', .int .i64 (restR (L.map Prod.fst) (S.map Prod.fst) D).2]) ∧ M.map Prod.fst = (restR (L.map Prod.fst) (S.map Prod.fst) D).1 ∧ SigOwn w.heap.size w' v' M ∧ Below w.heap.size w w' := by
  obtain ⟨i0, hi, iz0, iz1, iz2⟩ := info_parts (P := Tryz.prog) sg_info
  obtain ⟨a, cap, rfl, hc, hm⟩ := hs.s.shape
  obtain ⟨a2, cap2, rfl, hc2, hm2⟩ := ht.s.shape
  obtain ⟨a3, cap3, rfl, hc3, hm3⟩ := hd.shape
  have HVD := Lib.hid (fun W hW => ref_Valid29 _ _ _ L S D W (hs.below hW) (ht.below hW) (hd.below hW))
  have HS := Lib.hid hs
  have HT := Lib.hid ht
  have HD := Lib.hid hd
  have HF := Lib.hid hf
  have hSl := hf.1
  clear hs ht hd hf hm hm2 hm3
  go_enter Tryz.func17, Tryz.ntmps17
  go_wp2_with fail
  go_loopw [8] (fun i wr => ∃ (j : Nat), j ≤ S.length ∧ i = .int .i64 j ∧ ((S.drop j).all fun x => svS x.1) = (S.all fun x => svS x.1) ∧ Below w.heap.size w wr) (fun i _ => S.length - (intOf i).toNat)
  case atStart => exact ⟨0, Nat.zero_le _, rfl, rfl, Below.refl _ _⟩
  case round =>
    obtain ⟨j, hj, rfl, hgo, hb⟩ := hrel
    have HGO := Lib.hid hgo
    have HB := Lib.hid hb
    clear hgo hb
    by_cases hlt : j < S.length
    · obtain ⟨b, o, rfl, y0, y1, y2, hy⟩ := (HT.out.below HB.out).at hlt
      have HGO2 := Lib.hid ((show ((S.drop j).all fun x => svS x.1) = (svS S[j].1 && (S.drop (j + 1)).all fun x => svS x.1) by rw [List.drop_eq_getElem_cons hlt, List.all_cons]).symm.trans HGO.out)
      have HFX := Lib.hid (HF.out.2 _ (List.getElem_mem hlt))
      generalize S[j] = x at y0 y1 y2 hy HGO2 HFX
      obtain ⟨⟨xk, xn, xl⟩, xv⟩ := x
      dsimp only at y0 y1 y2 hy HGO2 HFX
      obtain ⟨xa, xc, rfl, -, -⟩ := hy.shape
      have HV := Lib.hid (ref_sValid xk xn (.slice xa xl.length xc) xl wr hy HFX.out)
      clear hy
      go_wp2_with fail
      refine HV.out.mono ?_
      rintro e w1 ⟨rfl, hb1⟩
      have HB1 := Lib.hid (ext_trans HB.out hb1)
      clear hb1
      cases hv : sv xk xn xl
      · have HR := Lib.hid (show restR (L.map Prod.fst) (S.map Prod.fst) D = ([], 1) by
          unfold restR
          rw [if_neg (fun h => by
            rw [List.all_map, show S.all (svS ∘ Prod.fst) = S.all (fun x => svS x.1) from rfl, ← HGO2.out, show svS (xk, xn, xl) = false from hv] at h
            cases h.1)])
        clear hv
        go_wp2_with fail
        refine bodyPost_ret (v := .tuple #[.slice none 0 0, .int .i64 1]) (by simp [results, Tryz.results17, go_sem]) rfl ?_
        rw [HR.out]
        exact ⟨_, [], rfl, rfl, ⟨World.ownsRow_nil _ _ _ _, by simp⟩, HB1.out⟩
      · have HGO3 := Lib.hid (show ((S.drop (j + 1)).all fun x => svS x.1) = (S.all fun x => svS x.1) by rw [← HGO2.out, show svS (xk, xn, xl) = true from hv, Bool.true_and])
        clear hv
        go_wp2_with fail
        go_roundw
        case rel => exact ⟨j + 1, by omega, by go_num, HGO3.out, HB1.out⟩
        case measure => simp [intOf]; omega
    · obtain rfl : j = S.length := by omega
      have HA := Lib.hid (show (S.all fun x => svS x.1) = true by rw [← HGO.out, List.drop_length]; rfl)
      go_wp2_with fail
      refine (HVD.out _ HB.out).mono ?_
      rintro e w2 ⟨rfl, hb2⟩
      have HB2 := Lib.hid (ext_trans HB.out hb2)
      clear hb2 HB
      cases hV : validR (L.map Prod.fst) (S.map Prod.fst) D
      · have HR := Lib.hid (show restR (L.map Prod.fst) (S.map Prod.fst) D = ([], 1) by
          unfold restR
          rw [if_neg (fun h => by rw [hV] at h; cases h.2)])
        clear hV
        go_wp2_with fail
        refine bodyPost_ret (v := .tuple #[.slice none 0 0, .int .i64 1]) (by simp [results, Tryz.results17, go_sem]) rfl ?_
        rw [HR.out]
        exact ⟨_, [], rfl, rfl, ⟨World.ownsRow_nil _ _ _ _, by simp⟩, HB2.out⟩
      have hAm : (S.map Prod.fst).all svS = true := by rw [List.all_map]; exact HA.out
      have HR := Lib.hid (show restR (L.map Prod.fst) (S.map Prod.fst) D = (((L.map Prod.fst).zip D).map (fun p => restE (S.map Prod.fst) p.1 p.2), 0) by
        unfold restR
        rw [if_pos ⟨hAm, hV⟩])
      obtain ⟨hl, hsl, hdl, hfi0⟩ := valid_parts hV
      have HTY := Lib.hid (show ∀ x ∈ L, tyS x.1 = true by
        unfold validR at hV
        rw [Bool.and_eq_true, Bool.and_eq_true, Bool.and_eq_true] at hV
        have := hV.1.1.2
        rw [List.all_map, List.all_eq_true] at this
        exact this)
      have HFI := Lib.hid hfi0
      have HAM := Lib.hid hAm
      clear hV hfi0 hAm
      rw [List.length_map] at hl hsl hdl
      have HO0 := Lib.hid (World.ownsRow_made w2 #[] 0 (Nat.le_refl _) (Nat.zero_le _) rfl : (w2.alloc (.cells #[] 37)).ownsRow w2.heap.size 37 3 (.slice (some ⟨w2.heap.size, 0, none⟩) 0 0) 0 [])
      have HB3 := Lib.hid (HB2.out.alloc HB2.out.size (.cells #[] 37))
      have HDL := Lib.hid hdl
      clear hdl
      go_wp2_with fail
      go_loopw [9, 10] (fun o_ i wr => ∃ (j : Nat) (M : List (Sg × Value)), j ≤ L.length ∧ i = .int .i64 j ∧ M.length = j ∧ M.map Prod.fst = (((L.map Prod.fst).zip D).take j).map (fun p => restE (S.map Prod.fst) p.1 p.2) ∧ SigOwn w.heap.size wr o_ M ∧ Below w.heap.size w wr) (fun _ i _ => L.length - (intOf i).toNat)
      case atStart => exact ⟨0, [], Nat.zero_le _, rfl, rfl, rfl, ⟨ownsRow_base HO0.out HB2.out.size, by simp⟩, HB3.out⟩
      case round =>
        obtain ⟨j, M, hj, rfl, hml, hmm, hso, hb⟩ := hrel
        have HML := Lib.hid hml
        have hm64 : M.length ≤ 64 := by omega
        clear hml
        have HM := Lib.hid hmm
        have HSW := Lib.hid hso
        have HB := Lib.hid hb
        obtain ⟨ao, co, rfl, -, -⟩ := (SlR.of_own hso.s).shape
        clear hmm hso hb HB2 HB3 HO0
        by_cases hlt : j < L.length
        · have hlt2 : j < D.length := by have := HDL.out; omega
          obtain ⟨b, o, rfl, y0, y1, y2, hy⟩ := (HS.out.below HB.out).at hlt
          obtain ⟨b3, o3, rfl, z0, z1, z2⟩ := dv_at (HD.out.below HB.out) hlt2
          have hlz : j < ((L.map Prod.fst).zip D).length := by rw [List.length_zip, List.length_map]; omega
          have HST := Lib.hid (show ∀ M2 : List (Sg × Value), M2.map Prod.fst = M.map Prod.fst ++ [restE (S.map Prod.fst) L[j].1 D[j]] → M2.map Prod.fst = (((L.map Prod.fst).zip D).take (j + 1)).map (fun p => restE (S.map Prod.fst) p.1 p.2) from fun M2 h => by
            rw [h, HM.out, List.take_succ_eq_append_getElem hlz, List.map_append, List.getElem_zip]; simp)
          have hfi : fitsR L[j].1 (S.map Prod.fst) D[j] = true := HFI.out j L[j].1 D[j] (by simp [hlt]) (by simp [hlt2])
          have hty := HTY.out _ (List.getElem_mem hlt)
          generalize L[j] = x at y0 y1 y2 hy HST hfi hty
          generalize D[j] = d at z0 z1 z2 HST hfi
          obtain ⟨⟨xk, xn, xl⟩, xv⟩ := x
          obtain ⟨do_, df, di⟩ := d
          dsimp only at y0 y1 y2 hy HST z0 z1 z2 hfi hty
          obtain ⟨xa, xc, rfl, -, -⟩ := hy.shape
          have hz0 := cell_lt z0
          have hy0 := cell_lt y0
          go_upto_region 12 with fail
          go_region_held3 (fun w' => w'.cell? ⟨b, o + j * 3, none⟩ = some (.int .i64 xk) ∧ w'.cell? ⟨b, o + j * 3 + 1, none⟩ = some (.int .i64 xn))
            (first | exact ⟨y0, y1⟩ | go_keep) (fail)
          rename_i hh
          clear hh
          have hx6 := OwnRow.fresh wr #[.int .i64 xk, .int .i64 xn, .slice none 0 0] 37
          have hbw := ((Below.refl wr.heap.size wr).alloc (Nat.le_refl _) (.cells #[.int .i64 xk, .int .i64 xn, .slice none 0 0] 37)).drew
          have hz6 : wr.heap.size < (wr.alloc (.cells #[.int .i64 xk, .int .i64 xn, .slice none 0 0] 37)).drew.heap.size := by simp
          replace hx6 : OwnRow (wr.alloc (.cells #[.int .i64 xk, .int .i64 xn, .slice none 0 0] 37)).drew wr.heap.size [.int .i64 xk, .int .i64 xn, .slice none 0 0] := hx6
          generalize (wr.alloc (.cells #[.int .i64 xk, .int .i64 xn, .slice none 0 0] 37)).drew = w6 at hx6 hbw hz6 ⊢
          have HBW := Lib.hid hbw
          have HO6 := Lib.hid (HSW.out.later hbw)
          have HB6 := Lib.hid (ext_trans HB.out hbw)
          have HX6 := Lib.hid hx6
          have hB6 : wr.heap.size ≤ wr.heap.size := Nat.le_refl _
          by_cases hm1 : do_ = -1
          · subst hm1
            have z0' := (hbw.cell (p := ⟨b3, o3 + j * 3, none⟩) hz0).trans z0
            have HE := Lib.hid (show restE (S.map Prod.fst) (xk, xn, xl) (-1, df, di) = (xk, xn, []) by unfold restE; rw [if_pos rfl])
            clear y0 y1 y2 hy z0 z1 z2 hbw hx6
            have c0 := (HX6.out).cell (j := 0) rfl
            have c1 := (HX6.out).cell (j := 1) rfl
            have c2 := (HX6.out).cell (j := 2) rfl
            have HC := Lib.hid (World.news_of_block (w := (w6).alloc (.cells #[.int .i64 xk, .int .i64 xn, .slice none 0 0] 37)) (cs := #[.int .i64 xk, .int .i64 xn, .slice none 0 0]) (t := 37) (fr := (0, 0)) (by exact heap_alloc_new _ _))
            have hso := (HO6.out).later ((Below.refl (w6).heap.size w6).alloc (Nat.le_refl _) (.cells #[.int .i64 xk, .int .i64 xn, .slice none 0 0] 37))
            have HSO := Lib.hid hso
            have HVO := Lib.hid (own_later (World.ownsRow_nil w6 w.heap.size 75 2) ((Below.refl (w6).heap.size w6).alloc (Nat.le_refl _) (.cells #[.int .i64 xk, .int .i64 xn, .slice none 0 0] 37)))
            have HB7 := Lib.hid ((HB6.out).alloc (HB6.out).size (.cells #[.int .i64 xk, .int .i64 xn, .slice none 0 0] 37))
            have hsz7 := (HB6.out).size
            clear hso
            go_wp2_with (at_builtin; refine wpList_append_own_at _ rfl _ _ 22 rfl w.heap.size 37 i0 (.agg #[.int .i64 0, .int .i64 0, .slice none 0 0]) 3 40 Tryz.underlying22 hi iz0 iz1 iz2 rfl (by decide) _ _ _ rfl HSO.out.s ⟨(w6).heap.size, 0, none⟩ 1 1 [.int .i64 xk, .int .i64 xn, .slice none 0 0] rfl rfl HC.out (by simp [Value.oneCell']) (by unfold maxLen; omega) (by omega) (by simp; omega) ?_)
            intro v8 w8 ho8 hg8 _ _
            have HS8 := Lib.hid (HSO.out.snoc (s := (xk, xn, ([] : List Ch))) hg8 HVO.out ho8)
            have HB8 := Lib.hid (HB7.out.grown hg8 (by simp; omega) (fun q hq => (HSO.out.s.lt q hq).1))
            clear ho8 hg8 c0 c1 c2
            go_wp2_with fail
            go_roundw
            case rel => exact ⟨j + 1, _, by omega, by go_num, by simp [HML.out], HST.out _ (by rw [HE.out]; simp), HS8.out, HB8.out⟩
            case measure => simp [intOf]; omega
          · obtain ⟨hr1, hr2⟩ := fits_range hfi hm1
            obtain ⟨kk, rfl⟩ : ∃ kk : Nat, do_ = (kk : Int) := ⟨do_.toNat, by dsimp only at hr1; omega⟩
            have hkk : kk < S.length := by dsimp only at hr2; rw [List.length_map] at hr2; omega
            obtain ⟨b2, o2, rfl, u0, u1, u2, hu⟩ := (HT.out.below HB.out).at hkk
            have hsg : sgAt (S.map Prod.fst) kk = S[kk].1 := by rw [sgAt_lt (by simpa using hkk)]; simp
            have HFU := Lib.hid (HF.out.2 _ (List.getElem_mem hkk))
            have HE := Lib.hid (show restE (S.map Prod.fst) (xk, xn, xl) ((kk : Int), df, di) = (xk, xn, (derG ((kk : Int), df, di) (xk, xn, xl) S[kk].1).2.2) by
              rw [← restG_eq HAM.out hty hfi]
              unfold restG
              rw [if_pos (show (0 : Int) ≤ (kk : Int) by omega), show sgAt (S.map Prod.fst) ((kk : Int).toNat) = S[kk].1 by rw [Int.toNat_natCast, hsg]]
              rfl)
            clear hsg
            generalize S[kk] = y at u0 u1 u2 hu HFU HE
            obtain ⟨⟨qk, qn, ql⟩, qv⟩ := y
            dsimp only at u0 u1 u2 hu HFU HE
            obtain ⟨qa, qc, rfl, -, -⟩ := hu.shape
            have hu0 := cell_lt u0
            have HDE := Lib.hid (fun W (hW : RowKit.Below wr.heap.size wr W) => ref_derive29 ((kk : Int), df, di) (xk, xn, xl) (qk, qn, ql) (.slice xa xl.length xc) (.slice qa ql.length qc) W ⟨_, _, _, rfl⟩ (hu.below hW) HFU.out)
            generalize (derG ((kk : Int), df, di) (xk, xn, xl) (qk, qn, ql)).2.2 = dl at HDE HE
            have HCS := Lib.hid (And.intro z0 (And.intro z1 (And.intro z2 (And.intro y0 (And.intro y1 (And.intro y2 (And.intro u0 (And.intro u1 u2))))))))
            have q0 := (hbw.cell (p := ⟨b3, o3 + j * 3, none⟩) hz0).trans z0
            have hkd : decide ((kk : Int) ≥ 0) = true := by rw [decide_eq_true_iff]; omega
            clear hm1 hr1 hr2 y0 y1 y2 hy z0 z1 z2 u0 u1 u2 hu hx6
            go_upto_region 14 with fail
            clear q0
            have x0 := HX6.out.cell (j := 0) rfl
            have x1 := HX6.out.cell (j := 1) rfl
            have x2 := HX6.out.cell (j := 2) rfl
            go_region_held3 (fun w' => w'.cell? ⟨b3, o3 + j * 3, none⟩ = some (.int .i64 (kk : Int)) ∧ w'.cell? ⟨b3, o3 + j * 3 + 1, none⟩ = some (.int .i64 df) ∧ w'.cell? ⟨b3, o3 + j * 3 + 2, none⟩ = some (.bool di) ∧ w'.cell? ⟨b, o + j * 3, none⟩ = some (.int .i64 xk) ∧ w'.cell? ⟨b, o + j * 3 + 1, none⟩ = some (.int .i64 xn) ∧ w'.cell? ⟨b, o + j * 3 + 2, none⟩ = some (.slice xa xl.length xc) ∧ w'.cell? ⟨b2, o2 + kk * 3, none⟩ = some (.int .i64 qk) ∧ w'.cell? ⟨b2, o2 + kk * 3 + 1, none⟩ = some (.int .i64 qn) ∧ w'.cell? ⟨b2, o2 + kk * 3 + 2, none⟩ = some (.slice qa ql.length qc))
              (first
                | exact ⟨(hbw.cell (p := ⟨b3, o3 + j * 3, none⟩) hz0).trans HCS.out.1, (hbw.cell (p := ⟨b3, o3 + j * 3 + 1, none⟩) hz0).trans HCS.out.2.1, (hbw.cell (p := ⟨b3, o3 + j * 3 + 2, none⟩) hz0).trans HCS.out.2.2.1, (hbw.cell (p := ⟨b, o + j * 3, none⟩) hy0).trans HCS.out.2.2.2.1, (hbw.cell (p := ⟨b, o + j * 3 + 1, none⟩) hy0).trans HCS.out.2.2.2.2.1, (hbw.cell (p := ⟨b, o + j * 3 + 2, none⟩) hy0).trans HCS.out.2.2.2.2.2.1, (hbw.cell (p := ⟨b2, o2 + kk * 3, none⟩) hu0).trans HCS.out.2.2.2.2.2.2.1, (hbw.cell (p := ⟨b2, o2 + kk * 3 + 1, none⟩) hu0).trans HCS.out.2.2.2.2.2.2.2.1, (hbw.cell (p := ⟨b2, o2 + kk * 3 + 2, none⟩) hu0).trans HCS.out.2.2.2.2.2.2.2.2⟩
                | exact ⟨(hb9.cell (p := ⟨b3, o3 + j * 3, none⟩) hz0).trans HCS.out.1, (hb9.cell (p := ⟨b3, o3 + j * 3 + 1, none⟩) hz0).trans HCS.out.2.1, (hb9.cell (p := ⟨b3, o3 + j * 3 + 2, none⟩) hz0).trans HCS.out.2.2.1, (hb9.cell (p := ⟨b, o + j * 3, none⟩) hy0).trans HCS.out.2.2.2.1, (hb9.cell (p := ⟨b, o + j * 3 + 1, none⟩) hy0).trans HCS.out.2.2.2.2.1, (hb9.cell (p := ⟨b, o + j * 3 + 2, none⟩) hy0).trans HCS.out.2.2.2.2.2.1, (hb9.cell (p := ⟨b2, o2 + kk * 3, none⟩) hu0).trans HCS.out.2.2.2.2.2.2.1, (hb9.cell (p := ⟨b2, o2 + kk * 3 + 1, none⟩) hu0).trans HCS.out.2.2.2.2.2.2.2.1, (hb9.cell (p := ⟨b2, o2 + kk * 3 + 2, none⟩) hu0).trans HCS.out.2.2.2.2.2.2.2.2⟩
                | exact ⟨((((B9.out.setCell hB6 _).setCell hB6 _).setCell hB6 _).cell (p := ⟨b3, o3 + j * 3, none⟩) hz0).trans HCS.out.1, ((((B9.out.setCell hB6 _).setCell hB6 _).setCell hB6 _).cell (p := ⟨b3, o3 + j * 3 + 1, none⟩) hz0).trans HCS.out.2.1, ((((B9.out.setCell hB6 _).setCell hB6 _).setCell hB6 _).cell (p := ⟨b3, o3 + j * 3 + 2, none⟩) hz0).trans HCS.out.2.2.1, ((((B9.out.setCell hB6 _).setCell hB6 _).setCell hB6 _).cell (p := ⟨b, o + j * 3, none⟩) hy0).trans HCS.out.2.2.2.1, ((((B9.out.setCell hB6 _).setCell hB6 _).setCell hB6 _).cell (p := ⟨b, o + j * 3 + 1, none⟩) hy0).trans HCS.out.2.2.2.2.1, ((((B9.out.setCell hB6 _).setCell hB6 _).setCell hB6 _).cell (p := ⟨b, o + j * 3 + 2, none⟩) hy0).trans HCS.out.2.2.2.2.2.1, ((((B9.out.setCell hB6 _).setCell hB6 _).setCell hB6 _).cell (p := ⟨b2, o2 + kk * 3, none⟩) hu0).trans HCS.out.2.2.2.2.2.2.1, ((((B9.out.setCell hB6 _).setCell hB6 _).setCell hB6 _).cell (p := ⟨b2, o2 + kk * 3 + 1, none⟩) hu0).trans HCS.out.2.2.2.2.2.2.2.1, ((((B9.out.setCell hB6 _).setCell hB6 _).setCell hB6 _).cell (p := ⟨b2, o2 + kk * 3 + 2, none⟩) hu0).trans HCS.out.2.2.2.2.2.2.2.2⟩
                | go_keep)
              (first
                | (go_at_call 56; (with_reducible refine (HDE.out _ ?_).mono ?_); (exact below_drewN HBW.out _); rintro e w8 ⟨v8, rfl, ho8, hb8⟩; have hb8' := below_undrew hb8; have hb9 := hbw.trans (hb8'.mono hbw.size); have B9 := Lib.hid hb9; have ho9 := ho8; obtain ⟨a8, c8, rfl, -, -⟩ := (SlR.of_own ho8).shape; have HO8 := Lib.hid ho8; have hx8 := HX6.out.below hb8' hz6; have p0 := hx8.cell (j := 0) rfl; have p1 := hx8.cell (j := 1) rfl; have p2 := hx8.cell (j := 2) rfl; have f0 := hx8.free (j := 0) (by simp); have f1 := hx8.free (j := 1) (by simp); have f2 := hx8.free (j := 2) (by simp); have HX8 := Lib.hid hx8; have HSO8 := Lib.hid (HO6.out.later hb8'); clear hb8 hb8' ho8 ho9))
            rename_i hh
            clear hh
            have hbs := ((B9.out.setCell (p := ⟨wr.heap.size, 0, none⟩) hB6 (.int .i64 xk)).setCell (p := ⟨wr.heap.size, 1, none⟩) hB6 (.int .i64 xn)).setCell (p := ⟨wr.heap.size, 2, none⟩) hB6 (.slice a8 dl.length c8)
            have HSO9 := Lib.hid (HSW.out.later hbs)
            have HB9 := Lib.hid (ext_trans HB.out hbs)
            have HV9 := Lib.hid (ownsRow_base (base' := w.heap.size) (ownsRow_set3 HO8.out hz6 (.int .i64 xk) (.int .i64 xn) (.slice a8 dl.length c8)) HB6.out.size)
            have HX9 := Lib.hid (((HX8.out.set (j := 0) (by simp) (.int .i64 xk)).set (j := 1) (by simp) (.int .i64 xn)).set (j := 2) (by simp) (.slice a8 dl.length c8))
            clear hbs hbw hb9 hx8 p0 p1 p2 f0 f1 f2 x0 x1 x2
            generalize ((w8.setCell ⟨wr.heap.size, 0, none⟩ (.int .i64 xk)).setCell ⟨wr.heap.size, 1, none⟩ (.int .i64 xn)).setCell ⟨wr.heap.size, 2, none⟩ (.slice a8 dl.length c8) = w9 at HSO9 HB9 HV9 HX9 ⊢
            have c0 := (HX9.out).cell (j := 0) rfl
            have c1 := (HX9.out).cell (j := 1) rfl
            have c2 := (HX9.out).cell (j := 2) rfl
            have HC := Lib.hid (World.news_of_block (w := (w9).alloc (.cells #[.int .i64 xk, .int .i64 xn, .slice a8 dl.length c8] 37)) (cs := #[.int .i64 xk, .int .i64 xn, .slice a8 dl.length c8]) (t := 37) (fr := (0, 0)) (by exact heap_alloc_new _ _))
            have hso := (HSO9.out).later ((Below.refl (w9).heap.size w9).alloc (Nat.le_refl _) (.cells #[.int .i64 xk, .int .i64 xn, .slice a8 dl.length c8] 37))
            have HSO := Lib.hid hso
            have HVO := Lib.hid (own_later HV9.out ((Below.refl (w9).heap.size w9).alloc (Nat.le_refl _) (.cells #[.int .i64 xk, .int .i64 xn, .slice a8 dl.length c8] 37)))
            have HB7 := Lib.hid ((HB9.out).alloc (HB9.out).size (.cells #[.int .i64 xk, .int .i64 xn, .slice a8 dl.length c8] 37))
            have hsz7 := (HB9.out).size
            clear hso
            go_wp2_with (at_builtin; refine wpList_append_own_at _ rfl _ _ 22 rfl w.heap.size 37 i0 (.agg #[.int .i64 0, .int .i64 0, .slice none 0 0]) 3 40 Tryz.underlying22 hi iz0 iz1 iz2 rfl (by decide) _ _ _ rfl HSO.out.s ⟨(w9).heap.size, 0, none⟩ 1 1 [.int .i64 xk, .int .i64 xn, .slice a8 dl.length c8] rfl rfl HC.out (by simp [Value.oneCell']) (by unfold maxLen; omega) (by omega) (by simp; omega) ?_)
            intro v8 w8 ho8 hg8 _ _
            have HS8 := Lib.hid (HSO.out.snoc (s := (xk, xn, dl)) hg8 HVO.out ho8)
            have HB8 := Lib.hid (HB7.out.grown hg8 (by simp; omega) (fun q hq => (HSO.out.s.lt q hq).1))
            clear ho8 hg8 c0 c1 c2
            go_wp2_with fail
            go_roundw
            case rel => exact ⟨j + 1, _, by omega, by go_num, by simp [HML.out], HST.out _ (by rw [HE.out]; simp), HS8.out, HB8.out⟩
            case measure => simp [intOf]; omega
        · obtain rfl : j = L.length := by omega
          go_wp2_with fail
          refine bodyPost_ret (v := .tuple #[.slice ao M.length co, .int .i64 0]) (by simp [results, Tryz.results17, go_sem]) rfl ?_
          rw [HR.out]
          refine ⟨_, M, rfl, ?_, HSW.out, HB.out⟩
          rw [HM.out, List.take_of_length_le (by rw [List.length_zip, List.length_map]; omega)]
end Go.Proofs.YtimeilkelnljnaaGreatDoor
