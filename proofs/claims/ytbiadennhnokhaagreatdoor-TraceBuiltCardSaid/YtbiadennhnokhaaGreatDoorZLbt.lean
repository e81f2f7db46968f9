/- law23.TraceBuilt. -/
import Derived.Test.YtbiadennhnokhaaGreatDoorZ40
import Derived.Handy
import Derived.Deep.RegionHeld3
import Derived.Deep.Cut
namespace Go.Proofs.YtbiadennhnokhaaGreatDoor
open Go.RowKit
set_option linter.unusedSimpArgs false

theorem eqT_refl (t : Tr) : eqT t t = true := eqT_iff.2 rfl
set_option maxHeartbeats 3200000 in
set_option maxRecDepth 100000 in
theorem law_TraceBuilt (t : Tr) (p : TP) (w : World) (ht : TrM w t p) (hi : InT t) (hg : Glob w) (hm : Glm w) :
    Calls Tryz.prog 5 #[p.v t] w fun e w' => e = .returned (.bool true) ∧ Below w.heap.size w w' := by
  obtain ⟨a1, k1, a2, k2, a3, k3, a4, k4, e, -⟩ := ht.open
  have HT := Lib.hid ht
  have HI := Lib.hid hi
  have HG := Lib.hid hg
  have HM := Lib.hid hm
  have HE := Lib.hid e
  have HB1 := Lib.hid (below_new w (boxT t a1 a2 a3 a4 k1 k2 k3 k4) 27)
  have HX1 := Lib.hid (Bx.new w (boxT t a1 a2 a3 a4 k1 k2 k3 k4) 27)
  rw [e]
  clear ht hi hg hm e
  go_enter Tryz.func5, Tryz.ntmps5
  go_wp2_with fail
  generalize w.alloc (.cells (boxT t a1 a2 a3 a4 k1 k2 k3 k4) 27) = w1 at *
  refine (law_awake23 w1 (HG.out.below HB1.out) (HM.out.below HB1.out)).mono ?_
  rintro e w2 ⟨rfl, hb2⟩
  have HB2 := Lib.hid (ext_trans HB1.out hb2)
  have HX2 := Lib.hid (HX1.out.step hb2)
  obtain ⟨p0, p1, p2, p3, p4, p5, p6, p7, p8⟩ := HX2.out.nine
  have hfw := rf_Few23 t p 60 w2 (HT.out.below HB2.out) (by decide) ⟨by have := HI.out.tx; omega, by have := HI.out.tx; omega, by have := HI.out.tx; omega⟩
  rw [HE.out] at hfw
  have HFW := Lib.hid hfw
  clear hb2 hfw
  rcases Bool.eq_false_or_eq_true (fewT t 60) with hfew | hfew
  rotate_left
  · rw [hfew] at HFW
    clear hfew
    go_wp2_with fail
    refine HFW.out.mono ?_
    rintro e w3 ⟨rfl, hb3⟩
    have HB3 := Lib.hid (ext_trans HB2.out hb3)
    clear hb3
    go_wp2_with fail
    go_ret
    exact ⟨rfl, HB3.out⟩
  have HV := Lib.hid (few_fit (by decide) (by decide) hfew (fun x hx => (HI.out.v x hx).2.2.2.1) (fun s hs c hc => ((HI.out.g s hs).2.2 c hc).1))
  rw [hfew] at HFW
  clear hfew
  go_wp2_with fail
  refine HFW.out.mono ?_
  rintro e w3 ⟨rfl, hb3⟩
  have HB3 := Lib.hid (ext_trans HB2.out hb3)
  have HX3 := Lib.hid (HX2.out.step hb3)
  clear p0 p1 p2 p3 p4 p5 p6 p7 p8 hb3
  have hbd := tr_Build t p w3 (HT.out.below HB3.out) HV.out.fb (HG.out.below HB3.out) (HM.out.below HB3.out) HV.out.sg
  rw [HE.out] at hbd
  obtain ⟨p0, p1, p2, p3, p4, p5, p6, p7, p8⟩ := HX3.out.nine
  obtain ⟨⟨a, c⟩, hB⟩ : ∃ r, r = buildF t := ⟨_, rfl⟩
  rw [← hB] at hbd
  dsimp only at hbd
  have HBD := Lib.hid hbd
  have HBF := Lib.hid hB
  clear hbd hB HFW
  by_cases hc : c = 0
  · subst hc
    have hva : validF a := build_again HBF.out.symm
    have HVA := Lib.hid hva
    have HVF := Lib.hid (valid_fit hva)
    clear hva
    go_wp2_with fail
    refine HBD.out.mono ?_
    rintro e w4 ⟨q, rfl, hq, hb4⟩
    obtain ⟨x1, y1, x2, y2, x3, y3, x4, y4, e, -⟩ := hq.open
    rw [e]
    have HQE := Lib.hid e
    have HB4 := Lib.hid (ext_trans HB3.out hb4)
    have HX4 := Lib.hid (HX3.out.step hb4)
    have hal := below_new w4 (boxT a x1 x2 x3 x4 y1 y2 y3 y4) 27
    have HB5 := Lib.hid (ext_trans HB4.out hal)
    have HX5 := Lib.hid (HX4.out.step hal)
    have HQ5 := Lib.hid (hq.below hal)
    have HY5 := Lib.hid (Bx.new w4 (boxT a x1 x2 x3 x4 y1 y2 y3 y4) 27)
    clear e hq hb4 hal HBD p0 p1 p2 p3 p4 p5 p6 p7 p8
    go_wp2_with fail
    generalize w4.alloc (.cells (boxT a x1 x2 x3 x4 y1 y2 y3 y4) 27) = w5 at *
    have hbd := tr_Build a q w5 HQ5.out HVF.out.fb (HG.out.below HB5.out) (HM.out.below HB5.out) HVF.out.sg
    rw [show buildF a = (a, 0) from HVA.out, HQE.out] at hbd
    dsimp only at hbd
    have HBD := Lib.hid hbd
    clear hbd
    refine HBD.out.mono ?_
    rintro e w6 ⟨r, rfl, hr, hb6⟩
    obtain ⟨u1, v1, u2, v2, u3, v3, u4, v4, e, -⟩ := hr.open
    rw [e]
    have HRE := Lib.hid e
    have HB6 := Lib.hid (ext_trans HB5.out hb6)
    have HX6 := Lib.hid (HX5.out.step hb6)
    have HY6 := Lib.hid (HY5.out.step hb6)
    have HQ6 := Lib.hid (HQ5.out.below hb6)
    have hal := below_new w6 (boxT a u1 u2 u3 u4 v1 v2 v3 v4) 27
    have HB7 := Lib.hid (ext_trans HB6.out hal)
    have HX7 := Lib.hid (HX6.out.step hal)
    have HY7 := Lib.hid (HY6.out.step hal)
    have HQ7 := Lib.hid (HQ6.out.below hal)
    have HR7 := Lib.hid (hr.below hal)
    have HZ7 := Lib.hid (Bx.new w6 (boxT a u1 u2 u3 u4 v1 v2 v3 v4) 27)
    clear e hr hb6 hal HBD
    go_upto_region 9 with fail
    generalize w6.alloc (.cells (boxT a u1 u2 u3 u4 v1 v2 v3 v4) 27) = w7 at *
    have hCV := fun (u : Tr) (r : TP) W (hr : TrM W u r) (hf : VF u) (hW : Below w.heap.size w W) => tr_Valid u r W hr hf.fb (HG.out.below hW) (HM.out.below hW) hf.sg
    have hva := hCV a q w7 HQ7.out HVF.out HB7.out
    rw [HQE.out, validB_iff.2 HVA.out] at hva
    have HCV := Lib.hid hCV
    have HVL := Lib.hid hva
    clear hva hCV
    obtain ⟨p0, p1, p2, p3, p4, p5, p6, p7, p8⟩ := HX7.out.nine
    obtain ⟨q0, q1, q2, q3, q4, q5, q6, q7, q8⟩ := HY7.out.nine
    go_wp2_with fail
    refine HVL.out.mono ?_
    rintro e w8 ⟨rfl, hb8⟩
    have HB8 := Lib.hid (ext_trans HB7.out hb8)
    have HX8 := Lib.hid (HX7.out.step hb8)
    have HY8 := Lib.hid (HY7.out.step hb8)
    have HZ8 := Lib.hid (HZ7.out.step hb8)
    have HQ8 := Lib.hid (HQ7.out.below hb8)
    have heq := tr_Equal a a q r w8 HQ8.out (HR7.out.below hb8)
    rw [HQE.out, HRE.out, eqT_refl] at heq
    have HEQ := Lib.hid heq
    clear heq hb8 HVL p0 p1 p2 p3 p4 p5 p6 p7 p8 q0 q1 q2 q3 q4 q5 q6 q7 q8
    obtain ⟨q0, q1, q2, q3, q4, q5, q6, q7, q8⟩ := HY8.out.nine
    obtain ⟨r0, r1, r2, r3, r4, r5, r6, r7, r8⟩ := HZ8.out.nine
    go_wp2_with fail
    refine HEQ.out.mono ?_
    rintro e w9 ⟨rfl, hb9⟩
    have HB9 := Lib.hid (ext_trans HB8.out hb9)
    have HX9 := Lib.hid (HX8.out.step hb9)
    have HY9 := Lib.hid (HY8.out.step hb9)
    have HQ9 := Lib.hid (HQ8.out.below hb9)
    have hva := HCV.out t p w9 (HT.out.below HB9.out) HV.out HB9.out
    rw [HE.out] at hva
    clear hb9 HEQ q0 q1 q2 q3 q4 q5 q6 q7 q8 r0 r1 r2 r3 r4 r5 r6 r7 r8
    obtain ⟨p0, p1, p2, p3, p4, p5, p6, p7, p8⟩ := HX9.out.nine
    rcases Bool.eq_false_or_eq_true (validB t) with hv | hv
    · have hta : a = t := by
        have h1 : buildF t = (t, 0) := validB_iff.1 hv
        have h2 := HBF.out
        rw [h1] at h2
        exact congrArg Prod.fst h2
      rw [hv] at hva
      have HVL := Lib.hid hva
      have HTA := Lib.hid hta
      clear hva hv hta
      go_wp2_with fail
      refine HVL.out.mono ?_
      rintro e w10 ⟨rfl, hb10⟩
      have HB10 := Lib.hid (ext_trans HB9.out hb10)
      have HX10 := Lib.hid (HX9.out.step hb10)
      have HY10 := Lib.hid (HY9.out.step hb10)
      have heq := tr_Equal a t q p w10 (HQ9.out.below hb10) (HT.out.below HB10.out)
      rw [HQE.out, HE.out, show eqT a t = true from eqT_iff.2 HTA.out] at heq
      have HEQ := Lib.hid heq
      clear heq hb10 HVL p0 p1 p2 p3 p4 p5 p6 p7 p8
      obtain ⟨p0, p1, p2, p3, p4, p5, p6, p7, p8⟩ := HX10.out.nine
      obtain ⟨q0, q1, q2, q3, q4, q5, q6, q7, q8⟩ := HY10.out.nine
      go_wp2_with fail
      refine HEQ.out.mono ?_
      rintro e w11 ⟨rfl, hb11⟩
      have HB11 := Lib.hid (ext_trans HB10.out hb11)
      clear hb11
      go_wp2_with fail
      go_ret
      exact ⟨rfl, HB11.out⟩
    · rw [hv] at hva
      have HVL := Lib.hid hva
      clear hva hv
      go_wp2_with fail
      refine HVL.out.mono ?_
      rintro e w10 ⟨rfl, hb10⟩
      have HB10 := Lib.hid (ext_trans HB9.out hb10)
      clear hb10
      go_wp2_with fail
      go_ret
      exact ⟨rfl, HB10.out⟩
  · have hne : (buildF t).2 ≠ 0 := by rw [← HBF.out]; exact hc
    have ha0 : a = tr0 := by have := build_err hne; rw [← HBF.out] at this; exact this
    have hvf : validB t = false := by
      rw [← Bool.not_eq_true, validB_iff]
      intro h
      have h1 : buildF t = (t, 0) := h
      rw [h1] at hne
      exact hne rfl
    have hcb : (c != 0) = true := by rw [bne_iff_ne]; exact hc
    subst ha0
    have HC := Lib.hid hvf
    clear hc hne hvf
    go_wp2_with fail
    refine HBD.out.mono ?_
    rintro e w4 ⟨q, rfl, hq, hb4⟩
    obtain ⟨x1, y1, x2, y2, x3, y3, x4, y4, e, -⟩ := hq.open
    rw [e]
    have HQE := Lib.hid e
    have HB4 := Lib.hid (ext_trans HB3.out hb4)
    have HX4 := Lib.hid (HX3.out.step hb4)
    have hal := below_new w4 (boxT tr0 x1 x2 x3 x4 y1 y2 y3 y4) 27
    have HB5 := Lib.hid (ext_trans HB4.out hal)
    have HX5 := Lib.hid (HX4.out.step hal)
    have HQ5 := Lib.hid (hq.below hal)
    have HY5 := Lib.hid (Bx.new w4 (boxT tr0 x1 x2 x3 x4 y1 y2 y3 y4) 27)
    clear e hq hb4 hal HBD p0 p1 p2 p3 p4 p5 p6 p7 p8
    go_upto_region 7 with fail
    generalize w4.alloc (.cells (boxT tr0 x1 x2 x3 x4 y1 y2 y3 y4) 27) = w5 at *
    have heq := tr_Equal tr0 tr0 q tp0 w5 HQ5.out (tr0_in w5)
    rw [HQE.out, eqT_refl] at heq
    have HEQ := Lib.hid heq
    clear heq
    obtain ⟨q0, q1, q2, q3, q4, q5, q6, q7, q8⟩ := HY5.out.nine
    go_wp2_with fail
    refine HEQ.out.mono ?_
    rintro e w6 ⟨rfl, hb6⟩
    have HB6 := Lib.hid (ext_trans HB5.out hb6)
    have HX6 := Lib.hid (HX5.out.step hb6)
    have hva := tr_Valid t p w6 (HT.out.below HB6.out) HV.out.fb (HG.out.below HB6.out) (HM.out.below HB6.out) HV.out.sg
    rw [HE.out, HC.out] at hva
    have HVL := Lib.hid hva
    clear hb6 hva HEQ q0 q1 q2 q3 q4 q5 q6 q7 q8
    obtain ⟨p0, p1, p2, p3, p4, p5, p6, p7, p8⟩ := HX6.out.nine
    go_wp2_with fail
    refine HVL.out.mono ?_
    rintro e w7 ⟨rfl, hb7⟩
    have HB7 := Lib.hid (ext_trans HB6.out hb7)
    clear hb7
    go_wp2_with fail
    go_ret
    exact ⟨rfl, HB7.out⟩
end Go.Proofs.YtbiadennhnokhaaGreatDoor
