import Derived.Test.YtlbcfmhpkcpmaaaGreatDoorRefL
import Derived.Test.YtlbcfmhpkcpmaaaGreatDoorAw0
namespace Go.Proofs.YtlbcfmhpkcpmaaaGreatDoor
open Go.RowKit

theorem few_fit0 {l : List Ch} (h : few l 40 = true) : Fit l ∧ l.length ≤ 40 := by
  unfold few fewV at h
  rw [Bool.and_eq_true, List.all_eq_true, decide_eq_true_iff] at h
  obtain ⟨h1, h2⟩ := h
  refine ⟨⟨by omega, fun c hc => ?_⟩, by omega⟩
  have := of_decide_eq_true (h1 c hc)
  omega

set_option maxHeartbeats 3200000 in
set_option maxRecDepth 100000 in
theorem law_SignalForms (k n k2 n2 : Int) (v v2 : Value) (l m : List Ch) (w : World) (hg : Glob w) (hs : SlR w v l.length (chs l)) (hs2 : SlR w v2 m.length (chs m)) :
    Calls Tryz.prog 3 #[.agg #[.int .i64 k, .int .i64 n, v], .agg #[.int .i64 k2, .int .i64 n2, v2]] w fun e w' => e = .returned (.bool true) ∧ Below w.heap.size w w' := by
  obtain ⟨a, cap, rfl, hc, hm⟩ := hs.shape
  obtain ⟨a2, cap2, rfl, hc2, hm2⟩ := hs2.shape
  unfold maxLen at hm hm2
  have HS := Lib.hid hs
  have HSB := Lib.hid hs2
  have HG := Lib.hid hg
  have hbw : Below w.heap.size w ((w.alloc (.cells #[.int .i64 k, .int .i64 n, .slice a l.length cap] 24)).alloc (.cells #[.int .i64 k2, .int .i64 n2, .slice a2 m.length cap2] 24)) := ((Below.refl _ _).alloc (Nat.le_refl _) _).alloc (by simp) _
  have HR0 := Lib.hid ((OwnRow.fresh w #[.int .i64 k, .int .i64 n, .slice a l.length cap] 24).alloc (by simp) (.cells #[.int .i64 k2, .int .i64 n2, .slice a2 m.length cap2] 24))
  have hq0 := OwnRow.fresh (w.alloc (.cells #[.int .i64 k, .int .i64 n, .slice a l.length cap] 24)) #[.int .i64 k2, .int .i64 n2, .slice a2 m.length cap2] 24
  simp only [World.size_alloc] at hq0
  have HQ0 := Lib.hid hq0
  have HAW := Lib.hid (law_awake _ (HG.out.below hbw))
  have HBW := Lib.hid hbw
  clear hs hg hbw hq0 hs2
  go_enter Tryz.func3, Tryz.ntmps3
  go_wp2_with fail
  refine HAW.out.mono ?_
  rintro e w1 ⟨rfl, hb1⟩
  have HR1 := Lib.hid (HR0.out.below hb1 (by simp; omega))
  have HQ1 := Lib.hid (HQ0.out.below hb1 (by simp))
  have HB1 := Lib.hid (HBW.out.trans (hb1.mono HBW.out.size))
  have hl1 : w.heap.size + 1 < w1.heap.size := by have := hb1.size; simp at this; omega
  clear hb1 HR0 HQ0 HAW
  have p0 := HR1.out.cell (j := 0) rfl
  have p1 := HR1.out.cell (j := 1) rfl
  have p2 := HR1.out.cell (j := 2) rfl
  have b2 := HQ1.out.cell (j := 2) rfl
  go_wp2_with fail
  refine (ref_Few _ l 40 w1 (HS.out.below HB1.out)).mono ?_
  rintro e w1' ⟨rfl, rfl⟩
  cases hfew : few l 40
  · go_wp2_with fail
    go_ret
    exact ⟨rfl, HB1.out⟩
  obtain ⟨hfit, hl40⟩ := few_fit0 hfew
  have HF := Lib.hid hfit
  clear hfew hfit
  go_wp2_with fail
  refine (ref_Few _ m 40 w1' (HSB.out.below HB1.out)).mono ?_
  rintro e w1 ⟨rfl, hw1e⟩
  subst hw1e
  cases hfew : few m 40
  · go_wp2_with fail
    go_ret
    exact ⟨rfl, HB1.out⟩
  obtain ⟨hfit, hm40⟩ := few_fit0 hfew
  have HFB := Lib.hid hfit
  clear hfew hfit
  have HN1 := Lib.hid (sig_Normalize k n _ l w1 (HG.out.below HB1.out) (HS.out.below HB1.out) HF.out)
  have HN2 := Lib.hid (fun W hW => ref_Normalize k n (.slice a l.length cap) l W hW HF.out)
  obtain ⟨r, hr⟩ : ∃ r, r = normalizeR k n l := ⟨_, rfl⟩
  rw [← hr] at HN1 HN2
  obtain ⟨⟨xk, xn, xl⟩, er⟩ := r
  clear hr
  go_wp2_with fail
  refine HN1.out.mono ?_
  rintro e w2 ⟨v3, rfl, ho3, hb⟩
  dsimp only at ho3 ⊢
  obtain ⟨a3, cap3, rfl, -, -⟩ := (SlR.of_own ho3).shape
  have HX2 := Lib.hid (SlR.of_own ho3)
  have HB2 := Lib.hid (ext_trans HB1.out hb)
  have hx := OwnRow.fresh w2 #[.int .i64 xk, .int .i64 xn, .slice a3 xl.length cap3] 24
  have hsz2 := hb.size
  have HR2 := Lib.hid ((HR1.out.below hb (by omega)).alloc (by omega) (.cells #[.int .i64 xk, .int .i64 xn, .slice a3 xl.length cap3] 24))
  have HQ2 := Lib.hid ((HQ1.out.below hb (by omega)).alloc (by omega) (.cells #[.int .i64 xk, .int .i64 xn, .slice a3 xl.length cap3] 24))
  have HXR2 := Lib.hid hx
  clear ho3 hb hx p0 p1 p2 b2 HR1 HQ1 HN1
  have p0 := HR2.out.cell (j := 0) rfl
  have p1 := HR2.out.cell (j := 1) rfl
  have p2 := HR2.out.cell (j := 2) rfl
  go_wp2_with fail
  refine (HN2.out _ (HS.out.below (HB2.out.alloc HB2.out.size _))).mono ?_
  rintro e w3 ⟨v4, rfl, ho4, hb⟩
  dsimp only at ho4 ⊢
  obtain ⟨a4, cap4, rfl, -, -⟩ := (SlR.of_own ho4).shape
  have hsz3 := hb.size
  simp only [World.size_alloc] at hsz3
  have HY0 := Lib.hid ((SlR.of_own ho4).below ((Below.refl w3.heap.size _).alloc (Nat.le_refl _) (.cells #[.int .i64 xk, .int .i64 xn, .slice a4 xl.length cap4] 24)))
  have HX0 := Lib.hid ((HX2.out.below (ext_alloc hb)).below ((Below.refl w3.heap.size _).alloc (Nat.le_refl _) (.cells #[.int .i64 xk, .int .i64 xn, .slice a4 xl.length cap4] 24)))
  have HB0 := Lib.hid ((ext_trans HB2.out (ext_alloc hb)).alloc (ext_trans HB2.out (ext_alloc hb)).size (.cells #[.int .i64 xk, .int .i64 xn, .slice a4 xl.length cap4] 24))
  have HR3 := Lib.hid ((HR2.out.below hb (by simp; omega)).alloc (by omega) (.cells #[.int .i64 xk, .int .i64 xn, .slice a4 xl.length cap4] 24))
  have HQ3 := Lib.hid ((HQ2.out.below hb (by simp; omega)).alloc (by omega) (.cells #[.int .i64 xk, .int .i64 xn, .slice a4 xl.length cap4] 24))
  have HXR3 := Lib.hid ((HXR2.out.below hb (by simp)).alloc (by omega) (.cells #[.int .i64 xk, .int .i64 xn, .slice a4 xl.length cap4] 24))
  have HYR3 := Lib.hid (OwnRow.fresh w3 #[.int .i64 xk, .int .i64 xn, .slice a4 xl.length cap4] 24)
  clear ho4 hb p0 p1 p2 HR2 HQ2 HXR2 HN2
  have HV1 := Lib.hid (fun W hW hS => sig_Valid k n (.slice a l.length cap) l W hW hS HF.out)
  have HV2 := Lib.hid (fun W hS => ref_sValid k n (.slice a l.length cap) l W hS HF.out)
  obtain ⟨sv1, hsv⟩ : ∃ r, r = sv k n l := ⟨_, rfl⟩
  rw [← hsv] at HV1 HV2
  have HE1 := Lib.hid (fun W hS hT => sig_Equal k n k2 n2 (.slice a l.length cap) (.slice a2 m.length cap2) l m W hS hT)
  have HE2 := Lib.hid (fun W hS hT => ref_Equal k n k2 n2 (.slice a l.length cap) (.slice a2 m.length cap2) l m W hS hT)
  obtain ⟨q, hq⟩ : ∃ r, r = sEq k n l k2 n2 m := ⟨_, rfl⟩
  rw [← hq] at HE1 HE2
  have HE3 := Lib.hid (fun W hS hT => ref_Equal xk xn xk xn (.slice a3 xl.length cap3) (.slice a4 xl.length cap4) xl xl W hS hT)
  rw [show sEq xk xn xl xk xn xl = true by simp [sEq, sameC]] at HE3
  clear hsv hq
  go_upto_region 7 with fail
  generalize w3.alloc (.cells #[.int .i64 xk, .int .i64 xn, .slice a4 xl.length cap4] 24) = W0 at *
  have p0 := HR3.out.cell (j := 0) rfl
  have p1 := HR3.out.cell (j := 1) rfl
  have p2 := HR3.out.cell (j := 2) rfl
  have p3 := HQ3.out.cell (j := 0) rfl
  have p4 := HQ3.out.cell (j := 1) rfl
  have p5 := HQ3.out.cell (j := 2) rfl
  have p6 := HXR3.out.cell (j := 0) rfl
  have p7 := HXR3.out.cell (j := 1) rfl
  have p8 := HXR3.out.cell (j := 2) rfl
  have p9 := HYR3.out.cell (j := 0) rfl
  have pa := HYR3.out.cell (j := 1) rfl
  have pb := HYR3.out.cell (j := 2) rfl
  have HBR := Lib.hid (Below.refl W0.heap.size W0)
  go_region_held3 (fun w' => w'.cell? ⟨w.heap.size, 0, none⟩ = some (.int .i64 k) ∧ w'.cell? ⟨w.heap.size, 1, none⟩ = some (.int .i64 n) ∧ w'.cell? ⟨w.heap.size, 2, none⟩ = some (.slice a l.length cap) ∧
      w'.cell? ⟨w.heap.size + 1, 0, none⟩ = some (.int .i64 k2) ∧ w'.cell? ⟨w.heap.size + 1, 1, none⟩ = some (.int .i64 n2) ∧ w'.cell? ⟨w.heap.size + 1, 2, none⟩ = some (.slice a2 m.length cap2) ∧
      w'.cell? ⟨w2.heap.size, 0, none⟩ = some (.int .i64 xk) ∧ w'.cell? ⟨w2.heap.size, 1, none⟩ = some (.int .i64 xn) ∧ w'.cell? ⟨w2.heap.size, 2, none⟩ = some (.slice a3 xl.length cap3) ∧
      w'.cell? ⟨w3.heap.size, 0, none⟩ = some (.int .i64 xk) ∧ w'.cell? ⟨w3.heap.size, 1, none⟩ = some (.int .i64 xn) ∧ w'.cell? ⟨w3.heap.size, 2, none⟩ = some (.slice a4 xl.length cap4))
    (first | exact ⟨z0, z1, z2, z3, z4, z5, z6, z7, z8, z9, za, zb⟩ | exact ⟨y0, y1, y2, y3, y4, y5, y6, y7, y8, y9, ya, yb⟩ | exact ⟨x0, x1, x2, x3, x4, x5, x6, x7, x8, x9, xa, xb⟩ | exact ⟨r0, r1, r2, r3, r4, r5, r6, r7, r8, r9, ra, rb⟩ | exact ⟨q0, q1, q2, q3, q4, q5, q6, q7, q8, q9, qa, qb⟩ | go_keep)
    (first
      | (go_at_call 16
         (with_reducible refine (HV1.out _ ?_ ?_).mono ?_)
         · exact HG.out.below HB0.out.drew
         · exact HS.out.below HB0.out.drew
         rintro e w10 ⟨rfl, hb10⟩
         have hb10' := below_undrew hb10
         have q0 := ((hb10').cell (p := ⟨w.heap.size, 0, none⟩) (cell_lt p0)).trans p0
         have q1 := ((hb10').cell (p := ⟨w.heap.size, 1, none⟩) (cell_lt p0)).trans p1
         have q2 := ((hb10').cell (p := ⟨w.heap.size, 2, none⟩) (cell_lt p0)).trans p2
         have q3 := ((hb10').cell (p := ⟨w.heap.size + 1, 0, none⟩) (cell_lt p3)).trans p3
         have q4 := ((hb10').cell (p := ⟨w.heap.size + 1, 1, none⟩) (cell_lt p3)).trans p4
         have q5 := ((hb10').cell (p := ⟨w.heap.size + 1, 2, none⟩) (cell_lt p3)).trans p5
         have q6 := ((hb10').cell (p := ⟨w2.heap.size, 0, none⟩) (cell_lt p6)).trans p6
         have q7 := ((hb10').cell (p := ⟨w2.heap.size, 1, none⟩) (cell_lt p6)).trans p7
         have q8 := ((hb10').cell (p := ⟨w2.heap.size, 2, none⟩) (cell_lt p6)).trans p8
         have q9 := ((hb10').cell (p := ⟨w3.heap.size, 0, none⟩) (cell_lt p9)).trans p9
         have qa := ((hb10').cell (p := ⟨w3.heap.size, 1, none⟩) (cell_lt p9)).trans pa
         have qb := ((hb10').cell (p := ⟨w3.heap.size, 2, none⟩) (cell_lt p9)).trans pb
         have HB10 := Lib.hid (ext_trans HBR.out hb10')
         clear hb10 hb10')
      | (go_at_call 17
         (with_reducible refine (HV2.out _ ?_).mono ?_)
         · exact HS.out.below (ext_trans HB0.out HB10.out)
         rintro e w11 ⟨rfl, hb11⟩
         have r0 := ((hb11).cell (p := ⟨w.heap.size, 0, none⟩) (cell_lt q0)).trans q0
         have r1 := ((hb11).cell (p := ⟨w.heap.size, 1, none⟩) (cell_lt q0)).trans q1
         have r2 := ((hb11).cell (p := ⟨w.heap.size, 2, none⟩) (cell_lt q0)).trans q2
         have r3 := ((hb11).cell (p := ⟨w.heap.size + 1, 0, none⟩) (cell_lt q3)).trans q3
         have r4 := ((hb11).cell (p := ⟨w.heap.size + 1, 1, none⟩) (cell_lt q3)).trans q4
         have r5 := ((hb11).cell (p := ⟨w.heap.size + 1, 2, none⟩) (cell_lt q3)).trans q5
         have r6 := ((hb11).cell (p := ⟨w2.heap.size, 0, none⟩) (cell_lt q6)).trans q6
         have r7 := ((hb11).cell (p := ⟨w2.heap.size, 1, none⟩) (cell_lt q6)).trans q7
         have r8 := ((hb11).cell (p := ⟨w2.heap.size, 2, none⟩) (cell_lt q6)).trans q8
         have r9 := ((hb11).cell (p := ⟨w3.heap.size, 0, none⟩) (cell_lt q9)).trans q9
         have ra := ((hb11).cell (p := ⟨w3.heap.size, 1, none⟩) (cell_lt q9)).trans qa
         have rb := ((hb11).cell (p := ⟨w3.heap.size, 2, none⟩) (cell_lt q9)).trans qb
         have HB11 := Lib.hid (ext_trans HB10.out hb11)
         clear hb11)
      | (go_at_call 18
         (with_reducible refine (HE3.out _ ?_ ?_).mono ?_)
         · exact HX0.out.below HB11.out
         · exact HY0.out.below HB11.out
         rintro e w12 ⟨rfl, hb12⟩
         have x0 := ((hb12).cell (p := ⟨w.heap.size, 0, none⟩) (cell_lt r0)).trans r0
         have x1 := ((hb12).cell (p := ⟨w.heap.size, 1, none⟩) (cell_lt r0)).trans r1
         have x2 := ((hb12).cell (p := ⟨w.heap.size, 2, none⟩) (cell_lt r0)).trans r2
         have x3 := ((hb12).cell (p := ⟨w.heap.size + 1, 0, none⟩) (cell_lt r3)).trans r3
         have x4 := ((hb12).cell (p := ⟨w.heap.size + 1, 1, none⟩) (cell_lt r3)).trans r4
         have x5 := ((hb12).cell (p := ⟨w.heap.size + 1, 2, none⟩) (cell_lt r3)).trans r5
         have x6 := ((hb12).cell (p := ⟨w2.heap.size, 0, none⟩) (cell_lt r6)).trans r6
         have x7 := ((hb12).cell (p := ⟨w2.heap.size, 1, none⟩) (cell_lt r6)).trans r7
         have x8 := ((hb12).cell (p := ⟨w2.heap.size, 2, none⟩) (cell_lt r6)).trans r8
         have x9 := ((hb12).cell (p := ⟨w3.heap.size, 0, none⟩) (cell_lt r9)).trans r9
         have xa := ((hb12).cell (p := ⟨w3.heap.size, 1, none⟩) (cell_lt r9)).trans ra
         have xb := ((hb12).cell (p := ⟨w3.heap.size, 2, none⟩) (cell_lt r9)).trans rb
         have HB12 := Lib.hid (ext_trans HB11.out hb12)
         clear hb12)
      | (go_at_call 19
         (with_reducible refine (HE1.out _ ?_ ?_).mono ?_)
         · exact HS.out.below (ext_trans HB0.out HB12.out)
         · exact HSB.out.below (ext_trans HB0.out HB12.out)
         rintro e w13 ⟨rfl, hb13⟩
         have y0 := ((hb13).cell (p := ⟨w.heap.size, 0, none⟩) (cell_lt x0)).trans x0
         have y1 := ((hb13).cell (p := ⟨w.heap.size, 1, none⟩) (cell_lt x0)).trans x1
         have y2 := ((hb13).cell (p := ⟨w.heap.size, 2, none⟩) (cell_lt x0)).trans x2
         have y3 := ((hb13).cell (p := ⟨w.heap.size + 1, 0, none⟩) (cell_lt x3)).trans x3
         have y4 := ((hb13).cell (p := ⟨w.heap.size + 1, 1, none⟩) (cell_lt x3)).trans x4
         have y5 := ((hb13).cell (p := ⟨w.heap.size + 1, 2, none⟩) (cell_lt x3)).trans x5
         have y6 := ((hb13).cell (p := ⟨w2.heap.size, 0, none⟩) (cell_lt x6)).trans x6
         have y7 := ((hb13).cell (p := ⟨w2.heap.size, 1, none⟩) (cell_lt x6)).trans x7
         have y8 := ((hb13).cell (p := ⟨w2.heap.size, 2, none⟩) (cell_lt x6)).trans x8
         have y9 := ((hb13).cell (p := ⟨w3.heap.size, 0, none⟩) (cell_lt x9)).trans x9
         have ya := ((hb13).cell (p := ⟨w3.heap.size, 1, none⟩) (cell_lt x9)).trans xa
         have yb := ((hb13).cell (p := ⟨w3.heap.size, 2, none⟩) (cell_lt x9)).trans xb
         have HB13 := Lib.hid (ext_trans HB12.out hb13)
         clear hb13)
      | (go_at_call 18
         (with_reducible refine (HE2.out _ ?_ ?_).mono ?_)
         · exact HS.out.below (ext_trans HB0.out HB13.out)
         · exact HSB.out.below (ext_trans HB0.out HB13.out)
         rintro e w14 ⟨rfl, hb14⟩
         have z0 := ((hb14).cell (p := ⟨w.heap.size, 0, none⟩) (cell_lt y0)).trans y0
         have z1 := ((hb14).cell (p := ⟨w.heap.size, 1, none⟩) (cell_lt y0)).trans y1
         have z2 := ((hb14).cell (p := ⟨w.heap.size, 2, none⟩) (cell_lt y0)).trans y2
         have z3 := ((hb14).cell (p := ⟨w.heap.size + 1, 0, none⟩) (cell_lt y3)).trans y3
         have z4 := ((hb14).cell (p := ⟨w.heap.size + 1, 1, none⟩) (cell_lt y3)).trans y4
         have z5 := ((hb14).cell (p := ⟨w.heap.size + 1, 2, none⟩) (cell_lt y3)).trans y5
         have z6 := ((hb14).cell (p := ⟨w2.heap.size, 0, none⟩) (cell_lt y6)).trans y6
         have z7 := ((hb14).cell (p := ⟨w2.heap.size, 1, none⟩) (cell_lt y6)).trans y7
         have z8 := ((hb14).cell (p := ⟨w2.heap.size, 2, none⟩) (cell_lt y6)).trans y8
         have z9 := ((hb14).cell (p := ⟨w3.heap.size, 0, none⟩) (cell_lt y9)).trans y9
         have za := ((hb14).cell (p := ⟨w3.heap.size, 1, none⟩) (cell_lt y9)).trans ya
         have zb := ((hb14).cell (p := ⟨w3.heap.size, 2, none⟩) (cell_lt y9)).trans yb
         have HB14 := Lib.hid (ext_trans HB13.out hb14)
         clear hb14))
  go_wp2_with fail
  go_ret
  exact ⟨ret_bool (by simp), ext_trans HB0.out HB14.out⟩
end Go.Proofs.YtlbcfmhpkcpmaaaGreatDoor
