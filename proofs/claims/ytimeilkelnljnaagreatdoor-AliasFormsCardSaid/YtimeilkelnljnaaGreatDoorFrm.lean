import Derived.Test.YtimeilkelnljnaaGreatDoorVr
import Derived.Test.YtimeilkelnljnaaGreatDoorLw1
namespace Go.Proofs.YtimeilkelnljnaaGreatDoor
open Go.RowKit

set_option maxHeartbeats 3200000 in
set_option maxRecDepth 100000 in
theorem law_AliasForms (v v2 v3 : Value) (s : ByteArray) (L S : List (Sg × Value)) (D : List Dv) (w : World) (hg : Glob w) (hs : Sigs w v L) (ht : Sigs w v2 S) (hd : SlR w v3 D.length (dvs D)) :
    Calls Tryz.prog 4 #[v, v2, v3, .string s] w fun e w' => e = .returned (.bool true) ∧ Below w.heap.size w w' := by
  obtain ⟨a, cap, rfl, hc, hm⟩ := hs.s.shape
  obtain ⟨a2, cap2, rfl, hc2, hm2⟩ := ht.s.shape
  obtain ⟨a3, cap3, rfl, hc3, hm3⟩ := hd.shape
  have HG := Lib.hid hg
  have HS := Lib.hid hs
  have HT := Lib.hid ht
  have HD := Lib.hid hd
  clear hg hs ht hd hm hm2 hm3
  go_enter Tryz.func4, Tryz.ntmps4
  go_wp2_with fail
  refine (law_awake29 w HG.out).mono ?_
  rintro e w1 ⟨rfl, hb1⟩
  have HB1 := Lib.hid hb1
  clear hb1
  go_wp2_with fail
  refine (ref_Few29 _ L 8 80 _ (HS.out.below HB1.out) (by omega) (by omega)).mono ?_
  rintro e w2 ⟨rfl, rfl⟩
  cases hfew : few29 (L.map Prod.fst) 8 80
  · clear hfew
    go_wp2_with fail
    go_ret
    exact ⟨rfl, HB1.out⟩
  obtain ⟨hfit, hl8, -⟩ := few29_fit hfew (by omega)
  have HF := Lib.hid hfit
  have hl : L.length ≤ 8 := by omega
  clear hfew hfit hl8
  go_wp2_with fail
  refine (ref_Few29 _ S 8 80 _ (HT.out.below HB1.out) (by omega) (by omega)).mono ?_
  rintro e w2 ⟨rfl, rfl⟩
  cases hfew : few29 (S.map Prod.fst) 8 80
  · clear hfew
    go_wp2_with fail
    go_ret
    exact ⟨rfl, HB1.out⟩
  obtain ⟨hfit, hl8, -⟩ := few29_fit hfew (by omega)
  have HFS := Lib.hid hfit
  have hls : S.length ≤ 8 := by omega
  clear hfew hfit hl8
  by_cases hdl : (D.length : Int) > 10
  · go_wp2_with fail
    go_ret
    exact ⟨rfl, HB1.out⟩
  by_cases hsz : (s.size : Int) > 200
  · go_wp2_with fail
    go_ret
    exact ⟨rfl, HB1.out⟩
  have hd10 : D.length ≤ 10 := by omega
  have hs200 : s.size ≤ 200 := by omega
  have hdb : decide ((10 : Int) < (D.length : Int)) = false := by rw [decide_eq_false_iff_not]; omega
  have hsb : decide ((200 : Int) < (s.size : Int)) = false := by rw [decide_eq_false_iff_not]; omega
  clear hdl hsz
  go_wp2_with fail
  clear hdb hsb
  go_loopw [39] (fun i wr => ∃ (j : Nat), j ≤ min D.length L.length ∧ i = .int .i64 j ∧ Below w.heap.size w wr) (fun i _ => min D.length L.length - (intOf i).toNat)
  case atStart => exact ⟨0, Nat.zero_le _, rfl, HB1.out⟩
  case round =>
    obtain ⟨j, hj, rfl, hb⟩ := hrel
    have HB := Lib.hid hb
    clear hb HB1
    by_cases hlt : j < min D.length L.length
    · have hltb : decide ((j : Int) < min (D.length : Int) (L.length : Int)) = true := by rw [decide_eq_true_iff]; omega
      have hl1 : j < L.length := by omega
      have hl2 : j < D.length := by omega
      obtain ⟨b, o, rfl, y0, y1, y2, hy⟩ := (HS.out.below HB.out).at hl1
      obtain ⟨b3, o3, rfl, z0, z1, z2⟩ := dv_at (HD.out.below HB.out) hl2
      generalize L[j] = x at y0 y1 y2 hy
      generalize D[j] = d at z0 z1 z2
      obtain ⟨⟨xk, xn, xl⟩, xv⟩ := x
      dsimp only at y0 y1 y2 hy
      have hm1 : s.size ≤ maxLen := by unfold maxLen; omega
      have HR1 := Lib.hid (fun W hW => al_Read d xk xn s W (HG.out.below hW) hm1)
      have HR2 := Lib.hid (fun W => ref_Read29 d xk xn s W hm1)
      generalize readR d xk xn s = rs at HR1 HR2
      obtain ⟨do_, df, di⟩ := d
      dsimp only at z0 z1 z2 HR1 HR2
      have HZ := Lib.hid (And.intro z0 (And.intro z1 (And.intro z2 (And.intro y0 y1))))
      have hlz := cell_lt z0
      have hly := cell_lt y0
      clear hy y2 hm1
      go_upto_region 8 with fail
      clear hltb
      go_region_held3 (fun w' => (w'.cell? ⟨b3, o3 + j * 3, none⟩ = some (.int .i64 do_) ∧ w'.cell? ⟨b3, o3 + j * 3 + 1, none⟩ = some (.int .i64 df) ∧ w'.cell? ⟨b3, o3 + j * 3 + 2, none⟩ = some (.bool di) ∧ w'.cell? ⟨b, o + j * 3, none⟩ = some (.int .i64 xk) ∧ w'.cell? ⟨b, o + j * 3 + 1, none⟩ = some (.int .i64 xn)))
        (first
          | exact ⟨z0, z1, z2, y0, y1⟩
          | exact ⟨(b6.cell (p := ⟨b3, o3 + j * 3, none⟩) hlz).trans HZ.out.1, (b6.cell (p := ⟨b3, o3 + j * 3 + 1, none⟩) hlz).trans HZ.out.2.1, (b6.cell (p := ⟨b3, o3 + j * 3 + 2, none⟩) hlz).trans HZ.out.2.2.1, (b6.cell (p := ⟨b, o + j * 3, none⟩) hly).trans HZ.out.2.2.2.1, (b6.cell (p := ⟨b, o + j * 3 + 1, none⟩) hly).trans HZ.out.2.2.2.2⟩
          | exact ⟨(b5.cell (p := ⟨b3, o3 + j * 3, none⟩) hlz).trans HZ.out.1, (b5.cell (p := ⟨b3, o3 + j * 3 + 1, none⟩) hlz).trans HZ.out.2.1, (b5.cell (p := ⟨b3, o3 + j * 3 + 2, none⟩) hlz).trans HZ.out.2.2.1, (b5.cell (p := ⟨b, o + j * 3, none⟩) hly).trans HZ.out.2.2.2.1, (b5.cell (p := ⟨b, o + j * 3 + 1, none⟩) hly).trans HZ.out.2.2.2.2⟩
          | go_keep)
        (first
          | (go_at_call 14; (with_reducible refine (HR1.out _ ?_).mono ?_); (exact HB.out.trans ((below_undrew (B := wr.heap.size) b5).mono HB.out.size)); rintro e w6 ⟨rfl, hb6⟩; have b6 := b5.trans (hb6.mono b5.size); clear hb6)
          | (go_at_call 14; (with_reducible refine (HR1.out _ ?_).mono ?_); (exact below_drewN HB.out _); rintro e w5 ⟨rfl, hb5⟩; have b5 := below_undrew hb5; clear hb5)
          | (go_at_call 15; (with_reducible refine (HR2.out _).mono ?_); rintro e w6 ⟨rfl, hb6⟩; have b6 := b5.trans (hb6.mono b5.size); clear hb6)
          | (go_at_call 15; (with_reducible refine (HR2.out _).mono ?_); rintro e w5 ⟨rfl, hb5⟩; have b5 := below_undrew hb5; clear hb5))
      all_goals
        rename_i hh
        clear hh
        have HB6 := Lib.hid (ext_trans HB.out b6)
        clear b6 b5 z0 z1 z2 y0 y1
        go_wp2_with fail
        go_roundw
        case rel => exact ⟨j + 1, by omega, by go_num, HB6.out⟩
        case measure => simp [intOf]; omega
    · obtain rfl : j = min D.length L.length := by omega
      have hltb : decide (((min D.length L.length : Nat) : Int) < min (D.length : Int) (L.length : Int)) = false := by rw [decide_eq_false_iff_not]; omega
      have HA := Lib.hid (fun W hW => al_Restore (.slice a L.length cap) (.slice a2 S.length cap2) (.slice a3 D.length cap3) L S D W (HG.out.below hW) (HS.out.below hW) (HT.out.below hW) (HD.out.below hW) HFS.out)
      have HR := Lib.hid (fun W hW => ref_Restore29 (.slice a L.length cap) (.slice a2 S.length cap2) (.slice a3 D.length cap3) L S D W (HS.out.below hW) (HT.out.below hW) (HD.out.below hW) HFS.out)
      have HVA := Lib.hid (fun W hW => al_Valid (.slice a L.length cap) (.slice a2 S.length cap2) (.slice a3 D.length cap3) L S D W (HS.out.below hW) (HT.out.below hW) (HD.out.below hW))
      have HVR := Lib.hid (fun W hW => ref_Valid29 (.slice a L.length cap) (.slice a2 S.length cap2) (.slice a3 D.length cap3) L S D W (HS.out.below hW) (HT.out.below hW) (HD.out.below hW))
      generalize restR (L.map Prod.fst) (S.map Prod.fst) D = r at HA HR
      generalize validR (L.map Prod.fst) (S.map Prod.fst) D = vb at HVA HVR
      obtain ⟨rl, re⟩ := r
      go_wp2_with fail
      clear hltb
      refine (HA.out _ HB.out).mono ?_
      rintro e w3 ⟨v4, M, rfl, hM, hso, hb3⟩
      dsimp only at hM ⊢
      have HB3 := Lib.hid (ext_trans HB.out hb3)
      have HM := Lib.hid hM
      obtain ⟨a4, c4, rfl, -, -⟩ := hso.sigs.s.shape
      have HO := Lib.hid hso.sigs
      clear hM hso hb3
      go_wp2_with fail
      refine (HR.out _ HB3.out).mono ?_
      rintro e w4 ⟨v5, M2, rfl, hM2, hso2, hb4⟩
      dsimp only at hM2 ⊢
      have HB4 := Lib.hid (ext_trans HB3.out hb4)
      have HM2 := Lib.hid hM2
      obtain ⟨a5, c5, rfl, -, -⟩ := hso2.sigs.s.shape
      have HO2 := Lib.hid hso2.sigs
      have HO1 := Lib.hid (HO.out.below hb4)
      clear hM2 hso2 hb4
      go_wp2_with fail
      refine (HVA.out _ HB4.out).mono ?_
      rintro e w5 ⟨rfl, hb5⟩
      have HB5 := Lib.hid (ext_trans HB4.out hb5)
      have HP1 := Lib.hid (HO1.out.below hb5)
      have HP2 := Lib.hid (HO2.out.below hb5)
      clear hb5
      go_wp2_with fail
      refine (HVR.out _ HB5.out).mono ?_
      rintro e w6 ⟨rfl, hb6⟩
      have HB6 := Lib.hid (ext_trans HB5.out hb6)
      have hvb : (vb == vb) = true := by simp
      have HSG := Lib.hid (ref_Signals _ _ M M2 w6 (HP1.out.below hb6) (HP2.out.below hb6))
      rw [decide_eq_true (HM.out.trans HM2.out.symm)] at HSG
      clear hb6
      go_wp2_with fail
      refine HSG.out.mono ?_
      rintro e w7 ⟨rfl, hb7⟩
      have HB7 := Lib.hid (ext_trans HB6.out hb7)
      clear hb7
      go_wp2_with fail
      go_ret
      exact ⟨rfl, HB7.out⟩
end Go.Proofs.YtimeilkelnljnaaGreatDoor
