/- The law ChangesReturns, walked. -/
import Derived.Test.YtgnkjcdkfcikeaaGreatDoorLr
import Derived.Test.YtgnkjcdkfcikeaaGreatDoorRfs
namespace Go.Proofs.YtgnkjcdkfcikeaaGreatDoor
open Go.RowKit
set_option linter.unusedSimpArgs false

theorem few_code {rs : List Rc} {L : List Dcl} (h : FewOk rs L) : ∀ d ∈ L, d.code.length ≤ 1000 := fun d hd => by have := h.2.2.2 d hd; omega
theorem few_len {rs : List Rc} {L : List Dcl} (h : FewOk rs L) : L.length ≤ 1000 := by have := h.2.2.1; omega
theorem few_lenM {rs : List Rc} {L : List Dcl} (h : FewOk rs L) : (L.map Dcl.dc).length ≤ 1000 := by rw [List.length_map]; exact few_len h
theorem few_recs {rs : List Rc} {L : List Dcl} (h : FewOk rs L) : (∀ r ∈ rs, r.2.2.1.length ≤ 1000 ∧ r.2.2.2.length ≤ 1000) ∧ rs.length ≤ 1000000 :=
  ⟨fun r hr => by have := h.2.1 r hr; omega, by have := h.1; omega⟩
set_option maxHeartbeats 1600000 in
set_option maxRecDepth 100000 in
theorem law_ChangesReturns (v v2 : Value) (rs : List Rc) (L : List Dcl) (w : World) (hg : Glob w) (he : GlobE w) (hs : SlR w v rs.length (recs rs)) (hd : SlR w v2 L.length (dcls L))
    (hr : ∀ r ∈ rs, r.2.2.1.length ≤ 140737488351232 ∧ r.2.2.2.length ≤ 140737488351232) (ht : ∀ d ∈ L, d.nm.length ≤ 140737488351232 ∧ d.code.length ≤ 140737488351232) :
    Calls Tryz.prog 3 #[v, v2] w fun e w' => e = .returned (.bool true) ∧ Below w.heap.size w w' := by
  obtain ⟨a, cap, rfl, hcap, hmax⟩ := hs.shape
  obtain ⟨a2, cap2, rfl, hcap2, hmax2⟩ := hd.shape
  have HS := Lib.hid hs
  have HD := Lib.hid hd
  have HG := Lib.hid hg
  have HE := Lib.hid he
  have HR := Lib.hid hr
  have HT := Lib.hid ht
  clear hs hd hg he hr ht
  go_enter Tryz.func3, Tryz.ntmps3
  go_wp2_with fail
  refine (law_awake26 _ HG.out HE.out).mono ?_
  rintro e w1 ⟨rfl, hb1⟩
  have HB1 := Lib.hid hb1
  clear hb1
  go_wp2_with fail
  refine (ref_Few26 _ _ rs L w1 (HS.out.below HB1.out) (HD.out.below HB1.out) HR.out HT.out).mono ?_
  rintro e w2 ⟨bf, rfl, hb2, hfew⟩
  have HB2 := Lib.hid (ext_trans HB1.out hb2)
  have HFE := Lib.hid hfew
  clear hb2 hfew
  cases bf
  · go_wp2_with fail
    go_ret
    exact ⟨rfl, HB2.out⟩
  have HF := Lib.hid (HFE.out rfl)
  clear HFE
  have HFL := Lib.hid (few_len HF.out)
  go_wp2_with fail
  refine (ref_Consistent _ L w2 (HD.out.below HB2.out) HFL.out (few_code HF.out)).mono ?_
  rintro e w3 ⟨bc, rfl, hb3⟩
  have HB3 := Lib.hid (ext_trans HB2.out hb3)
  clear hb3
  cases bc
  · go_wp2_with fail
    go_ret
    exact ⟨rfl, HB3.out⟩
  have HFM := Lib.hid (ch_Format _ _ rs L w3 (HS.out.below HB3.out) (HD.out.below HB3.out) (HG.out.below HB3.out) (few_recs HF.out).1 (few_recs HF.out).2 (few_code HF.out) HFL.out (format_len _ _ (few_lenM HF.out) (few_recs HF.out).2))
  have HRF := Lib.hid (fun (ws : List Wd) (h : formatL cv (L.map Dcl.dc) rs ≠ []) (hw : ws.map (·.1) = wordsL (formatL cv (L.map Dcl.dc) rs)) => read_format cv_ok h hw)
  generalize formatL cv (L.map Dcl.dc) rs = F at HFM HRF
  go_wp2_with fail
  refine HFM.out.mono ?_
  rintro e w4 ⟨rfl, hb4⟩
  have HB4 := Lib.hid (ext_trans HB3.out hb4)
  have z4 := bsB_size F
  clear hb4
  by_cases hne : F = []
  · have hem : (bsB F).toList.isEmpty = true := by rw [bsB_isEmpty, decide_eq_true hne]
    clear hne
    go_wp2_with fail
    go_ret
    exact ⟨rfl, HB4.out⟩
  have hem : (bsB F).toList.isEmpty = false := by rw [bsB_isEmpty, decide_eq_false hne]
  have HNE := Lib.hid hne
  clear hne
  by_cases hlen : (16384 : Int) < (F.length : Int)
  · have hd1 : decide ((16384 : Int) < (F.length : Int)) = true := decide_eq_true hlen
    clear hlen
    go_wp2_with fail
    go_ret
    exact ⟨rfl, HB4.out⟩
  have hd1 : decide ((16384 : Int) < (F.length : Int)) = false := decide_eq_false hlen
  have HLE := Lib.hid (show F.length ≤ 16384 by omega)
  clear hlen
  go_wp2_with fail
  refine (law_read F _ L w4 (HD.out.below HB4.out) (HG.out.below HB4.out) (HE.out.below HB4.out) (few_code HF.out) HFL.out HLE.out).mono ?_
  rintro e w5 ⟨vo, vr, ws, rfl, hw, hso, hsr, hb5⟩
  obtain ⟨h1, h2⟩ := HRF.out ws HNE.out hw
  rw [h1] at hso
  rw [h2] at hsr
  have hsr0 : SlR w5 vr 0 [] := hsr
  obtain ⟨a3, c3, rfl, -, -⟩ := hso.shape
  obtain ⟨a4, c4, rfl, -, -⟩ := hsr0.shape
  have HO := Lib.hid hso
  have HB5 := Lib.hid (ext_trans HB4.out hb5)
  clear hw h1 h2 hso hsr hsr0 hb5 hem hd1 z4
  have HSA := Lib.hid (ref_Same26 _ _ rs rs w5 HO.out (HS.out.below HB5.out))
  rw [decide_eq_true (show rs = rs from rfl)] at HSA
  go_wp2_with fail
  refine HSA.out.mono ?_
  rintro e w6 ⟨rfl, hb6⟩
  have HB6 := Lib.hid (ext_trans HB5.out hb6)
  clear hb6
  go_wp2_with fail
  go_ret
  exact ⟨rfl, HB6.out⟩
end Go.Proofs.YtgnkjcdkfcikeaaGreatDoor
