/- The law ChangesValid, walked. -/
import Derived.Test.YtgnkjcdkfcikeaaGreatDoorLret
namespace Go.Proofs.YtgnkjcdkfcikeaaGreatDoor
open Go.RowKit
set_option linter.unusedSimpArgs false

set_option maxHeartbeats 1600000 in
set_option maxRecDepth 100000 in
theorem law_ChangesValid (v v2 : Value) (ws : List Wd) (L : List Dcl) (w : World) (hg : Glob w) (he : GlobE w) (hs : SlR w v ws.length (wds ws)) (hd : SlR w v2 L.length (dcls L))
    (hr : ∀ x ∈ ws, x.1.length ≤ 140737488351232) (ht : ∀ d ∈ L, d.nm.length ≤ 140737488351232 ∧ d.code.length ≤ 140737488351232) :
    Calls Tryz.prog 4 #[v, v2] w fun e w' => e = .returned (.bool true) ∧ Below w.heap.size w w' := by
  obtain ⟨a, cap, rfl, hcap, hmax⟩ := hs.shape
  obtain ⟨a2, cap2, rfl, hcap2, hmax2⟩ := hd.shape
  have HS := Lib.hid hs
  have HD := Lib.hid hd
  have HG := Lib.hid hg
  have HE := Lib.hid he
  have HR := Lib.hid hr
  have HT := Lib.hid ht
  clear hs hd hg he hr ht
  go_enter Tryz.func4, Tryz.ntmps4
  go_wp2_with fail
  refine (law_awake26 _ HG.out HE.out).mono ?_
  rintro e w1 ⟨rfl, hb1⟩
  have HB1 := Lib.hid hb1
  clear hb1
  by_cases h120 : (120 : Int) < (ws.length : Int)
  · have hd0 : decide ((120 : Int) < (ws.length : Int)) = true := decide_eq_true h120
    clear h120
    go_wp2_with fail
    go_ret
    exact ⟨rfl, HB1.out⟩
  have hd0 : decide ((120 : Int) < (ws.length : Int)) = false := decide_eq_false h120
  have HWL := Lib.hid (show ws.length ≤ 120 by omega)
  clear h120
  go_wp2_with fail
  refine (ref_Few26 _ _ [] L w1 (SlR.nil w1) (HD.out.below HB1.out) (by simp) HT.out).mono ?_
  rintro e w2 ⟨bf, rfl, hb2, hfew⟩
  have HB2 := Lib.hid (ext_trans HB1.out hb2)
  have HFE := Lib.hid hfew
  clear hb2 hfew
  cases bf
  · go_wp2_with fail
    go_ret
    exact ⟨rfl, HB2.out⟩
  have HF := Lib.hid (HFE.out rfl)
  clear HFE
  have HFL := Lib.hid (few_len HF.out)
  go_wp2_with fail
  refine (ref_Consistent _ L w2 (HD.out.below HB2.out) HFL.out (few_code HF.out)).mono ?_
  rintro e w3 ⟨bc, rfl, hb3⟩
  have HB3 := Lib.hid (ext_trans HB2.out hb3)
  clear hb3
  cases bc
  · go_wp2_with fail
    go_ret
    exact ⟨rfl, HB3.out⟩
  go_wp2_with fail
  refine (ch_Parse _ _ ws L w3 (HS.out.below HB3.out) (HD.out.below HB3.out) (HG.out.below HB3.out) (HE.out.below HB3.out) (few_code HF.out) HFL.out (by have := HWL.out; omega) HR.out).mono ?_
  rintro e w4 ⟨vo, vr, rfl, ho, hp, hb4⟩
  have hso := SlR.of_own ho
  have hsr := SlR.of_own hp
  have hpv := parse_valid cv_ok (L.map Dcl.dc) ws
  have hpl := (parse_len cv (L.map Dcl.dc) ws).1
  generalize (parseL cv (L.map Dcl.dc) ws).out = O at hso hpv hpl
  generalize (parseL cv (L.map Dcl.dc) ws).wrong = W at hsr
  obtain ⟨a3, c3, rfl, -, -⟩ := hso.shape
  obtain ⟨a4, c4, rfl, -, -⟩ := hsr.shape
  have HO := Lib.hid hso
  have HB4 := Lib.hid (ext_trans HB3.out hb4)
  have HOL := Lib.hid (show O.length ≤ 1000000 by have := HWL.out; omega)
  have HFM := Lib.hid (ch_Format _ _ O L w4 hso (HD.out.below HB4.out) (HG.out.below HB4.out) (valid_short hpv) HOL.out (few_code HF.out) HFL.out (format_len _ _ (few_lenM HF.out) HOL.out))
  have HRF := Lib.hid (fun (us : List Wd) (h : formatL cv (L.map Dcl.dc) O ≠ []) (hw : us.map (·.1) = wordsL (formatL cv (L.map Dcl.dc) O)) => read_format cv_ok h hw)
  have HNI := Lib.hid (show formatL cv (L.map Dcl.dc) O ≠ [] ↔ O ≠ [] from ⟨fun h => (format_nil.1 h).2, fun h => format_nil.2 ⟨hpv, h⟩⟩)
  generalize formatL cv (L.map Dcl.dc) O = F at HFM HRF HNI
  clear hso hsr ho hp hb4 hpv hpl
  go_wp2_with fail
  refine HFM.out.mono ?_
  rintro e w5 ⟨rfl, hb5⟩
  have HB5 := Lib.hid (ext_trans HB4.out hb5)
  have HO5 := Lib.hid (HO.out.below hb5)
  have z4 := bsB_size F
  clear hb5
  by_cases hO : O = []
  · have hF : F = [] := Classical.not_not.1 fun h => HNI.out.1 h hO
    have hem : (bsB F).toList.isEmpty = true := by rw [bsB_isEmpty, decide_eq_true hF]
    subst hO
    clear hF
    go_wp2_with fail
    go_ret
    exact ⟨rfl, HB5.out⟩
  have HNE := Lib.hid (HNI.out.2 hO)
  have hem : (bsB F).toList.isEmpty = false := by rw [bsB_isEmpty, decide_eq_false HNE.out]
  have hol : 0 < O.length := List.length_pos_iff.2 hO
  have ho0 : ((O.length : Int) == 0) = false := by rw [beq_eq_false_iff_ne]; omega
  have ho1 : decide (0 < O.length) = true := decide_eq_true hol
  clear hO hol
  by_cases hlen : (16384 : Int) < (F.length : Int)
  · have hd1 : decide ((16384 : Int) < (F.length : Int)) = true := decide_eq_true hlen
    have HO1 := Lib.hid ho1
    clear hlen
    go_wp2_with fail
    go_ret
    exact ⟨by first | rfl | exact ret_bool HO1.out, HB5.out⟩
  have hd1 : decide ((16384 : Int) < (F.length : Int)) = false := decide_eq_false hlen
  have HLE := Lib.hid (show F.length ≤ 16384 by omega)
  clear hlen
  go_wp2_with fail
  refine (law_read F _ L w5 (HD.out.below HB5.out) (HG.out.below HB5.out) (HE.out.below HB5.out) (few_code HF.out) HFL.out HLE.out).mono ?_
  rintro e w6 ⟨vo, vr, us, rfl, hw, hso, hsr, hb6⟩
  obtain ⟨h1, h2⟩ := HRF.out us HNE.out hw
  rw [h1] at hso
  rw [h2] at hsr
  have hsr0 : SlR w6 vr 0 [] := hsr
  obtain ⟨a5, c5, rfl, -, -⟩ := hso.shape
  obtain ⟨a6, c6, rfl, -, -⟩ := hsr0.shape
  have HO6 := Lib.hid hso
  have HB6 := Lib.hid (ext_trans HB5.out hb6)
  have HSA := Lib.hid (ref_Same26 _ _ O O w6 (HO5.out.below hb6) hso)
  rw [decide_eq_true (show O = O from rfl)] at HSA
  clear hw h1 h2 hso hsr hsr0 hb6
  go_wp2_with fail
  refine HSA.out.mono ?_
  rintro e w7 ⟨rfl, hb7⟩
  have HB7 := Lib.hid (ext_trans HB6.out hb7)
  clear hb7
  go_wp2_with fail
  go_ret
  exact ⟨rfl, HB7.out⟩
end Go.Proofs.YtgnkjcdkfcikeaaGreatDoor
