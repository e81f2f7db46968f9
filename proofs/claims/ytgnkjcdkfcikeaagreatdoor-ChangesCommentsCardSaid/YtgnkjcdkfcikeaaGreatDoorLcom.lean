/- The law ChangesComments, walked. -/
import Derived.Test.YtgnkjcdkfcikeaaGreatDoorLret
import Derived.Deep.RegionHeld3
namespace Go.Proofs.YtgnkjcdkfcikeaaGreatDoor
open Go.RowKit
set_option linter.unusedSimpArgs false

theorem com_text (T P : Bs) : bsB T ++ ⟨#[36, 99, 111, 109, 109, 101, 110, 116, 32, 35, 49, 32, 49, 33, 32, 36, 101, 110, 100, 10]⟩ ++ bsB P = bsB (T ++ (sComment ++ P)) := by
  apply ByteArray.ext
  apply Array.ext'
  simp [bsB, sComment, lineT]
set_option maxHeartbeats 1600000 in
set_option maxRecDepth 100000 in
theorem law_ChangesComments (v v2 : Value) (rs : List Rc) (L : List Dcl) (n : Nat) (w : World) (hn : n < 256) (hg : Glob w) (he : GlobE w) (hs : SlR w v rs.length (recs rs)) (hd : SlR w v2 L.length (dcls L))
    (hr : ∀ r ∈ rs, r.2.2.1.length ≤ 140737488351232 ∧ r.2.2.2.length ≤ 140737488351232) (ht : ∀ d ∈ L, d.nm.length ≤ 140737488351232 ∧ d.code.length ≤ 140737488351232) :
    Calls Tryz.prog 5 #[v, v2, .int .u8 (n : Int)] w fun e w' => e = .returned (.bool true) ∧ Below w.heap.size w w' := by
  obtain ⟨a, cap, rfl, hcap, hmax⟩ := hs.shape
  obtain ⟨a2, cap2, rfl, hcap2, hmax2⟩ := hd.shape
  have HS := Lib.hid hs
  have HD := Lib.hid hd
  have HG := Lib.hid hg
  have HE := Lib.hid he
  have HR := Lib.hid hr
  have HT := Lib.hid ht
  clear hs hd hg he hr ht
  go_enter Tryz.func5, Tryz.ntmps5
  go_wp2_with fail
  refine (law_awake26 _ HG.out HE.out).mono ?_
  rintro e w1 ⟨rfl, hb1⟩
  have HB1 := Lib.hid hb1
  clear hb1
  go_wp2_with fail
  refine (ref_Few26 _ _ rs L w1 (HS.out.below HB1.out) (HD.out.below HB1.out) HR.out HT.out).mono ?_
  rintro e w2 ⟨bf, rfl, hb2, hfew⟩
  have HB2 := Lib.hid (ext_trans HB1.out hb2)
  have HFE := Lib.hid hfew
  clear hb2 hfew
  cases bf
  · go_wp2_with fail
    go_ret
    exact ⟨rfl, HB2.out⟩
  have HF := Lib.hid (HFE.out rfl)
  clear HFE
  have HFL := Lib.hid (few_len HF.out)
  go_wp2_with fail
  refine (ref_Consistent _ L w2 (HD.out.below HB2.out) HFL.out (few_code HF.out)).mono ?_
  rintro e w3 ⟨bc, rfl, hb3⟩
  have HB3 := Lib.hid (ext_trans HB2.out hb3)
  clear hb3
  cases bc
  · go_wp2_with fail
    go_ret
    exact ⟨rfl, HB3.out⟩
  by_cases h0 : rs.length = 0
  · have hd0 : ((rs.length : Int) == 0) = true := by rw [beq_iff_eq]; omega
    clear h0
    go_wp2_with fail
    go_ret
    exact ⟨rfl, HB3.out⟩
  have hd0 : ((rs.length : Int) == 0) = false := by rw [beq_eq_false_iff_ne]; omega
  have hrn : ¬ rs = [] := fun h => h0 (by rw [h]; rfl)
  obtain ⟨k, hk⟩ : ∃ k, n % rs.length = k := ⟨_, rfl⟩
  have hkl : k < rs.length := hk ▸ Nat.mod_lt _ (by omega)
  have hmod : ((n : Int)).tmod (rs.length : Int) = (k : Int) := by rw [Int.tmod_eq_emod_of_nonneg (by omega), ← hk]; rfl
  have HK := Lib.hid hkl
  have hk0 : (0 : Int) ≤ (k : Int) := by omega
  have hk1 : k ≤ cap := by omega
  have htl : (rs.take k).length = k := by rw [List.length_take]; omega
  have HTL := Lib.hid htl
  have HST := Lib.hid (show SlR w (.slice a k cap) (rs.take k).length (recs (rs.take k)) by
    rw [htl]
    exact SlR.cut (ys := recs (rs.drop k)) (n := rs.length) (by rw [← recs_app, List.take_append_drop]; exact HS.out) (by omega) hk1 (Nat.le_refl _))
  have HFM := Lib.hid (fun W hW => ch_Format _ _ rs L W (HS.out.below hW) (HD.out.below hW) (HG.out.below hW) (few_recs HF.out).1 (few_recs HF.out).2 (few_code HF.out) HFL.out (format_len _ _ (few_lenM HF.out) (few_recs HF.out).2))
  have HFT := Lib.hid (fun W hW => ch_Format (.slice a k cap) (.slice a2 L.length cap2) (rs.take k) L W (HST.out.below hW) (HD.out.below hW) (HG.out.below hW) (fun r hr => (few_recs HF.out).1 r (List.mem_of_mem_take hr)) (by have := (few_recs HF.out).2; omega) (few_code HF.out) HFL.out (format_len _ _ (few_lenM HF.out) (by have := (few_recs HF.out).2; omega)))
  clear h0 hk hkl htl
  go_upto_region 6 with fail
  go_region_held3 (fun _ => True)
    (first | trivial | go_keep)
    (first
      | (go_at_call 11; with_reducible refine (HFM.out w3.drew HB3.out.drew).mono ?_; rintro e w4 ⟨rfl, hb4⟩; have HB4 := Lib.hid (ext_trans HB3.out.drew hb4); clear hb4)
      | (go_at_call 11; with_reducible refine (HFT.out w3.drew HB3.out.drew).mono ?_; rintro e w4 ⟨rfl, hb4⟩; have HC4 := Lib.hid (ext_trans HB3.out.drew hb4); clear hb4)
      | (go_at_call 11; with_reducible refine (HFT.out w4 HB4.out).mono ?_; rintro e w5 ⟨rfl, hb5⟩; have HB5 := Lib.hid (ext_trans HB4.out hb5); clear hb5)
      | (go_at_call 11; with_reducible refine (HFM.out w4 HC4.out).mono ?_; rintro e w5 ⟨rfl, hb5⟩; have HB5 := Lib.hid (ext_trans HC4.out hb5); clear hb5)
      | fail "no arm")
  have HRC := Lib.hid (fun (ws : List Wd) (p : Bs) (hne : formatL cv (L.map Dcl.dc) rs ≠ []) (hp : formatL cv (L.map Dcl.dc) rs = formatL cv (L.map Dcl.dc) (rs.take k) ++ p) (hw : ws.map (·.1) = wordsL (formatL cv (L.map Dcl.dc) (rs.take k) ++ (sComment ++ p))) =>
    read_comment cv_ok (a := rs.take k) (b := rs.drop k) (fun h => by have h1 := congrArg List.length h; rw [List.length_drop, List.length_nil] at h1; have := HK.out; omega) hne rfl (by rw [List.take_append_drop]) hp hw)
  have HK0 := Lib.hid (show k = 0 → formatL cv (L.map Dcl.dc) (rs.take k) = [] from fun h => by rw [h, List.take_zero]; rfl)
  clear HFM HFT HST
  generalize formatL cv (L.map Dcl.dc) rs = F at *
  generalize formatL cv (L.map Dcl.dc) (rs.take k) = T at *
  have z4 := bsB_size F
  have z5 := bsB_size T
  by_cases hne : F = []
  · have hem : (bsB F).toList.isEmpty = true := by rw [bsB_isEmpty, decide_eq_true hne]
    clear hne
    go_wp2_with fail
    go_ret
    exact ⟨rfl, HB5.out⟩
  have hem : (bsB F).toList.isEmpty = false := by rw [bsB_isEmpty, decide_eq_false hne]
  have HNE := Lib.hid hne
  clear hne
  by_cases hlen : (16364 : Int) < (F.length : Int)
  · have hd1 : decide ((16364 : Int) < (F.length : Int)) = true := decide_eq_true hlen
    clear hlen
    go_wp2_with fail
    go_ret
    exact ⟨rfl, HB5.out⟩
  have hd1 : decide ((16364 : Int) < (F.length : Int)) = false := decide_eq_false hlen
  have HLE := Lib.hid (show F.length ≤ 16364 by omega)
  clear hlen
  by_cases hlt : F.length < T.length
  · have hd2 : decide (F.length < T.length) = true := decide_eq_true hlt
    clear hlt
    go_wp2_with fail
    go_ret
    exact ⟨rfl, HB5.out⟩
  have hd2 : decide (F.length < T.length) = false := decide_eq_false hlt
  have HTF := Lib.hid (show T.length ≤ F.length by omega)
  clear hlt
  go_upto_region 9 with fail
  go_cut [64] (fun u wc => u = .bool (decide (F.take T.length ≠ T)) ∧ wc = w5)
  case first =>
    have hst := sub_text F 0 T.length
    rw [List.drop_zero] at hst
    have hle := HTF.out
    by_cases hk00 : k = 0
    · have hT := HK0.out hk00
      have HV := Lib.hid (show false = decide (F.take T.length ≠ T) by rw [hT]; rfl)
      subst hk00
      clear hT
      go_wp2_with fail
      go_meet
      case rel => exact ⟨by rw [← HV.out], rfl⟩
    · have hkp : decide (0 < k) = true := by rw [decide_eq_true_iff]; omega
      have hkq : decide ((0 : Int) < (k : Int)) = true := by rw [decide_eq_true_iff]; omega
      by_cases hq : F.take T.length = T
      · have HV := Lib.hid (show false = decide (F.take T.length ≠ T) by rw [decide_eq_false (fun h => h hq)])
        rw [hq] at hst
        clear hq hk00
        go_wp2_with fail
        go_meet
        case rel => exact ⟨by rw [← HV.out], rfl⟩
      · have HV := Lib.hid (show true = decide (F.take T.length ≠ T) by rw [decide_eq_true hq])
        have hnq := bsB_ne hq
        clear hq hk00
        go_wp2_with fail
        go_meet
        case rel => exact ⟨by rw [← HV.out], rfl⟩
  case rest =>
  obtain ⟨rfl, rfl⟩ := hcut
  by_cases hq : F.take T.length ≠ T
  · have hdq : decide (F.take T.length ≠ T) = true := decide_eq_true hq
    rw [hdq]
    clear hq
    go_wp2_with fail
    go_ret
    exact ⟨rfl, HB5.out⟩
  have hdq : decide (F.take T.length ≠ T) = false := decide_eq_false hq
  rw [hdq]
  have HQ := Lib.hid (Classical.not_not.1 hq)
  clear hq
  go_upto_region 11 with fail
  have hst0 : (bsB F).extract 0 T.length = bsB T := by rw [sub_text, List.drop_zero, HQ.out]
  obtain ⟨P, hP⟩ : ∃ P, P = F.drop T.length := ⟨_, rfl⟩
  have hst1 : (bsB F).extract T.length F.length = bsB P := by rw [sub_text, List.take_length, hP]
  have HFP := Lib.hid (show F = T ++ P by rw [hP, ← congrArg (· ++ F.drop T.length) HQ.out]; exact (List.take_append_drop _ _).symm)
  have hpl : P.length = F.length - T.length := by rw [hP, List.length_drop]
  have z6 := bsB_size P
  clear hP
  have hle := HTF.out
  have hle2 := HLE.out
  have ho1 : ¬ 9223372036854775807 < T.length + 20 := by omega
  have ho2 : ¬ 9223372036854775807 < T.length + 20 + P.length := by omega
  have hp0 : (0 : Int) ≤ (T.length : Int) := by omega
  have hlen : (T ++ (sComment ++ P)).length ≤ 16384 := by
    rw [List.length_append, List.length_append, show sComment.length = 20 from rfl]
    omega
  have HRD := Lib.hid (show Calls Tryz.prog 12 #[.string (bsB T ++ ⟨#[36, 99, 111, 109, 109, 101, 110, 116, 32, 35, 49, 32, 49, 33, 32, 36, 101, 110, 100, 10]⟩ ++ bsB P), .slice a2 L.length cap2] wc.drew (ReadPost (T ++ (sComment ++ P)) L wc.drew) from by
    rw [com_text]
    exact law_read _ _ L wc.drew (HD.out.below HB5.out.drew) (HG.out.below HB5.out.drew) (HE.out.below HB5.out.drew) (few_code HF.out) HFL.out hlen)
  clear hlen hle2 hpl
  go_region_held3 (fun _ => True)
    (first | trivial | go_keep)
    (first
      | (go_at_call 12; (with_reducible refine HRD.out.mono ?_); rintro e w5 ⟨vo, vr, ws, rfl, hw, hso, hsr, hb5⟩; have HH := Lib.hid (And.intro hw (And.intro hso (And.intro hsr hb5))); obtain ⟨a3, c3, rfl, -, -⟩ := hso.shape; obtain ⟨a4, c4, rfl, -, -⟩ := hsr.shape; clear hw hso hsr hb5)
      | fail "no arm")
  obtain ⟨hw, hso, hsr, hb5⟩ := HH.out
  obtain ⟨h1, h2⟩ := HRC.out ws P HNE.out HFP.out hw
  have HB6 := Lib.hid (ext_trans HB5.out.drew hb5)
  rw [h1, List.take_append_drop] at hso ⊢
  rw [h2] at hsr ⊢
  have HO := Lib.hid hso
  have HSA := Lib.hid (ref_Same26 _ _ rs rs w5 HO.out (HS.out.below HB6.out))
  rw [decide_eq_true (show rs = rs from rfl)] at HSA
  clear hw h1 h2 hso hsr hb5 hem hd1 hd2 hdq hst0 hst1 z4 z5 z6 ho1 ho2 hp0 hle hmod
  go_wp2_with fail
  refine HSA.out.mono ?_
  rintro e w6 ⟨rfl, hb6⟩
  have HB7 := Lib.hid (ext_trans HB6.out hb6)
  clear hb6
  go_wp2_with fail
  go_ret
  exact ⟨rfl, HB7.out⟩
end Go.Proofs.YtgnkjcdkfcikeaaGreatDoor
