import Derived.Test.YtlbcfmhpkcpmaaaGreatDoorRefN
import Derived.Test.YtlbcfmhpkcpmaaaGreatDoorAw0
namespace Go.Proofs.YtlbcfmhpkcpmaaaGreatDoor
open Go.RowKit

theorem few_fit1 {l : List Ch} (h : few l 40 = true) : Fit l ∧ l.length ≤ 40 := by
  unfold few fewV at h
  rw [Bool.and_eq_true, List.all_eq_true, decide_eq_true_iff] at h
  obtain ⟨h1, h2⟩ := h
  refine ⟨⟨by omega, fun c hc => ?_⟩, by omega⟩
  have := of_decide_eq_true (h1 c hc)
  omega

theorem wf_bd {x : Int} (h : (Lit.int .i64 x).wf = true) : -9223372036854775808 ≤ x ∧ x ≤ 9223372036854775807 := by
  have h' : (decide (IntKind.i64.min ≤ x) && decide (x ≤ IntKind.i64.max)) = true := h
  rw [Bool.and_eq_true, decide_eq_true_iff, decide_eq_true_iff] at h'
  exact h'

set_option maxHeartbeats 3200000 in
set_option maxRecDepth 100000 in
theorem law_SignalReads (k n t to_ : Int) (v : Value) (l : List Ch) (w : World) (hg : Glob w) (hs : SlR w v l.length (chs l)) (hto : -9223372036854775808 ≤ to_) (hto' : to_ ≤ 9223372036854775807) :
    Calls Tryz.prog 4 #[.agg #[.int .i64 k, .int .i64 n, v], .int .i64 t, .int .i64 to_] w fun e w' => e = .returned (.bool true) ∧ Below w.heap.size w w' := by
  obtain ⟨a, cap, rfl, hc, hm⟩ := hs.shape
  have HTO := Lib.hid hto
  have HTO' := Lib.hid hto'
  unfold maxLen at hm
  have HS := Lib.hid hs
  have HG := Lib.hid hg
  have hbw : Below w.heap.size w (w.alloc (.cells #[.int .i64 k, .int .i64 n, .slice a l.length cap] 24)) := (Below.refl _ _).alloc (Nat.le_refl _) _
  have HR0 := Lib.hid (OwnRow.fresh w #[.int .i64 k, .int .i64 n, .slice a l.length cap] 24)
  have HAW := Lib.hid (law_awake _ (HG.out.below hbw))
  have HBW := Lib.hid hbw
  clear hs hg hbw hto hto'
  go_enter Tryz.func4, Tryz.ntmps4
  go_wp2_with fail
  refine HAW.out.mono ?_
  rintro e w1 ⟨rfl, hb1⟩
  have HR1 := Lib.hid (HR0.out.below hb1 (by simp))
  have HB1 := Lib.hid (HBW.out.trans (hb1.mono HBW.out.size))
  have hl1 : w.heap.size < w1.heap.size := by have := hb1.size; simp at this; omega
  clear hb1 HR0 HAW
  have p0 := HR1.out.cell (j := 0) rfl
  have p1 := HR1.out.cell (j := 1) rfl
  have p2 := HR1.out.cell (j := 2) rfl
  go_wp2_with fail
  refine (ref_Few _ l 40 w1 (HS.out.below HB1.out)).mono ?_
  rintro e w1' ⟨rfl, rfl⟩
  cases hfew : few l 40
  · go_wp2_with fail
    go_ret
    exact ⟨rfl, HB1.out⟩
  obtain ⟨hfit, hl40⟩ := few_fit1 hfew
  have HF := Lib.hid hfit
  clear hfew hfit
  have HA1 := Lib.hid (fun W hW hS => sig_At k n (.slice a l.length cap) l t W hW hS HF.out)
  have HA2 := Lib.hid (fun W hS => ref_At k n (.slice a l.length cap) l t W hS HF.out)
  obtain ⟨ra, hra⟩ : ∃ r, r = atR k n l t := ⟨_, rfl⟩
  rw [← hra] at HA1 HA2
  obtain ⟨sA, eA⟩ := ra
  have HN1 := Lib.hid (fun W hW hS => sig_Next k n (.slice a l.length cap) l t W hW hS HF.out)
  have HN2 := Lib.hid (fun W hS => ref_Next k n (.slice a l.length cap) l t W hS HF.out)
  obtain ⟨rn, hrn⟩ : ∃ r, r = nextR k n l t := ⟨_, rfl⟩
  rw [← hrn] at HN1 HN2
  obtain ⟨⟨nt, ns⟩, ne⟩ := rn
  have HP1 := Lib.hid (fun W hW hS => sig_Previous k n (.slice a l.length cap) l t W hW hS HF.out)
  have HP2 := Lib.hid (fun W hS => ref_Previous k n (.slice a l.length cap) l t W hS HF.out)
  obtain ⟨rp, hrp⟩ : ∃ r, r = prevR k n l t := ⟨_, rfl⟩
  rw [← hrp] at HP1 HP2
  obtain ⟨⟨pt, ps⟩, pe⟩ := rp
  have HW1 := Lib.hid (fun W hW hS => sig_Window k n (.slice a l.length cap) l t to_ W hW hS HF.out HTO.out HTO'.out)
  have HW2 := Lib.hid (fun W hS => ref_Window k n (.slice a l.length cap) l t to_ W hS HF.out)
  obtain ⟨rw', hrw⟩ : ∃ r, r = winR k n l t to_ := ⟨_, rfl⟩
  rw [← hrw] at HW1 HW2
  clear hra hrn hrp hrw
  go_wp2_with fail
  refine (HA1.out _ (HG.out.below HB1.out) (HS.out.below HB1.out)).mono ?_
  rintro e w2 ⟨rfl, hb⟩
  have HB2 := Lib.hid (ext_trans HB1.out hb)
  have hl2 : w.heap.size < w2.heap.size := Nat.lt_of_lt_of_le hl1 hb.size
  have HR2 := Lib.hid (HR1.out.below hb hl1)
  clear hb
  clear p0 p1 p2
  have p0 := HR2.out.cell (j := 0) rfl
  have p1 := HR2.out.cell (j := 1) rfl
  have p2 := HR2.out.cell (j := 2) rfl
  go_wp2_with fail
  refine (HA2.out _ (HS.out.below HB2.out)).mono ?_
  rintro e w3 ⟨rfl, hb⟩
  have HB3 := Lib.hid (ext_trans HB2.out hb)
  have hl3 : w.heap.size < w3.heap.size := Nat.lt_of_lt_of_le hl2 hb.size
  have HR3 := Lib.hid (HR2.out.below hb hl2)
  clear hb
  clear p0 p1 p2
  have p0 := HR3.out.cell (j := 0) rfl
  have p1 := HR3.out.cell (j := 1) rfl
  have p2 := HR3.out.cell (j := 2) rfl
  go_wp2_with fail
  refine (HN1.out _ (HG.out.below HB3.out) (HS.out.below HB3.out)).mono ?_
  rintro e w4 ⟨rfl, hb⟩
  dsimp only at *
  have HB4 := Lib.hid ((ext_trans HB3.out hb).alloc (ext_trans HB3.out hb).size (.cells #[.int .i64 nt, .string ns] 36))
  have hl4 : w.heap.size < w4.heap.size := Nat.lt_of_lt_of_le hl3 hb.size
  have HR4 := Lib.hid ((HR3.out.below hb hl3).alloc hl4 (.cells #[.int .i64 nt, .string ns] 36))
  have HC4 := Lib.hid (OwnRow.fresh w4 #[.int .i64 nt, .string ns] 36)
  clear hb
  clear p0 p1 p2
  have p0 := HR4.out.cell (j := 0) rfl
  have p1 := HR4.out.cell (j := 1) rfl
  have p2 := HR4.out.cell (j := 2) rfl
  go_wp2_with fail
  refine (HN2.out _ (HS.out.below HB4.out)).mono ?_
  rintro e w5 ⟨rfl, hb⟩
  have hl4' : w.heap.size < (w4.alloc (.cells #[.int .i64 nt, .string ns] 36)).heap.size := by simp; omega
  have hz5 : w4.heap.size < w5.heap.size := by have := hb.size; simp at this; omega
  have hb5 := hb
  have HB5 := Lib.hid ((ext_trans HB4.out hb5).alloc (ext_trans HB4.out hb5).size (.cells #[.int .i64 nt, .string ns] 36))
  have HR5 := Lib.hid ((HR4.out.below hb5 hl4').alloc (by omega) (.cells #[.int .i64 nt, .string ns] 36))
  have HC45 := Lib.hid ((HC4.out.below hb5 (by simp)).alloc hz5 (.cells #[.int .i64 nt, .string ns] 36))
  have HC5 := Lib.hid (OwnRow.fresh w5 #[.int .i64 nt, .string ns] 36)
  clear hb hb5 HR4 HC4
  clear p0 p1 p2
  have p0 := HR5.out.cell (j := 0) rfl
  have p1 := HR5.out.cell (j := 1) rfl
  have p2 := HR5.out.cell (j := 2) rfl
  go_wp2_with fail
  refine (HP1.out _ (HG.out.below HB5.out) (HS.out.below HB5.out)).mono ?_
  rintro e w6 ⟨rfl, hb⟩
  have hz6 : w5.heap.size < w6.heap.size := by have := hb.size; simp at this; omega
  have HB6 := Lib.hid ((ext_trans HB5.out hb).alloc (ext_trans HB5.out hb).size (.cells #[.int .i64 pt, .string ps] 36))
  have HR6 := Lib.hid ((HR5.out.below hb (by simp; omega)).alloc (by omega) (.cells #[.int .i64 pt, .string ps] 36))
  have HC46 := Lib.hid ((HC45.out.below hb (by simp; omega)).alloc (by omega) (.cells #[.int .i64 pt, .string ps] 36))
  have HC56 := Lib.hid ((HC5.out.below hb (by simp)).alloc hz6 (.cells #[.int .i64 pt, .string ps] 36))
  have HC6 := Lib.hid (OwnRow.fresh w6 #[.int .i64 pt, .string ps] 36)
  clear hb HR5 HC45 HC5
  clear p0 p1 p2
  have p0 := HR6.out.cell (j := 0) rfl
  have p1 := HR6.out.cell (j := 1) rfl
  have p2 := HR6.out.cell (j := 2) rfl
  go_wp2_with fail
  refine (HP2.out _ (HS.out.below HB6.out)).mono ?_
  rintro e w7 ⟨rfl, hb⟩
  have hz7 : w6.heap.size < w7.heap.size := by have := hb.size; simp at this; omega
  have HB7 := Lib.hid ((ext_trans HB6.out hb).alloc (ext_trans HB6.out hb).size (.cells #[.int .i64 pt, .string ps] 36))
  have HR7 := Lib.hid ((HR6.out.below hb (by simp; omega)).alloc (by omega) (.cells #[.int .i64 pt, .string ps] 36))
  have HC47 := Lib.hid ((HC46.out.below hb (by simp; omega)).alloc (by omega) (.cells #[.int .i64 pt, .string ps] 36))
  have HC57 := Lib.hid ((HC56.out.below hb (by simp; omega)).alloc (by omega) (.cells #[.int .i64 pt, .string ps] 36))
  have HC67 := Lib.hid ((HC6.out.below hb (by simp)).alloc hz7 (.cells #[.int .i64 pt, .string ps] 36))
  have HC7 := Lib.hid (OwnRow.fresh w7 #[.int .i64 pt, .string ps] 36)
  clear hb HR6 HC46 HC56 HC6 p0 p1 p2
  go_upto_region 11 with fail
  generalize w7.alloc (.cells #[.int .i64 pt, .string ps] 36) = W0 at *
  have p0 := HR7.out.cell (j := 0) rfl
  have p1 := HR7.out.cell (j := 1) rfl
  have p2 := HR7.out.cell (j := 2) rfl
  have p3 := HC47.out.cell (j := 0) rfl
  have p4 := HC47.out.cell (j := 1) rfl
  have p5 := HC57.out.cell (j := 0) rfl
  have p6 := HC57.out.cell (j := 1) rfl
  have p7 := HC67.out.cell (j := 0) rfl
  have p8 := HC67.out.cell (j := 1) rfl
  have p9 := HC7.out.cell (j := 0) rfl
  have pa := HC7.out.cell (j := 1) rfl
  have HBR := Lib.hid (Below.refl W0.heap.size W0)
  go_region_held3 (fun w' => w'.cell? ⟨w.heap.size, 0, none⟩ = some (.int .i64 k) ∧ w'.cell? ⟨w.heap.size, 1, none⟩ = some (.int .i64 n) ∧ w'.cell? ⟨w.heap.size, 2, none⟩ = some (.slice a l.length cap) ∧
      w'.cell? ⟨w4.heap.size, 0, none⟩ = some (.int .i64 nt) ∧ w'.cell? ⟨w4.heap.size, 1, none⟩ = some (.string ns) ∧ w'.cell? ⟨w5.heap.size, 0, none⟩ = some (.int .i64 nt) ∧ w'.cell? ⟨w5.heap.size, 1, none⟩ = some (.string ns) ∧
      w'.cell? ⟨w6.heap.size, 0, none⟩ = some (.int .i64 pt) ∧ w'.cell? ⟨w6.heap.size, 1, none⟩ = some (.string ps) ∧ w'.cell? ⟨w7.heap.size, 0, none⟩ = some (.int .i64 pt) ∧ w'.cell? ⟨w7.heap.size, 1, none⟩ = some (.string ps))
    (first | exact ⟨x0, x1, x2, x3, x4, x5, x6, x7, x8, x9, xa⟩ | exact ⟨r0, r1, r2, r3, r4, r5, r6, r7, r8, r9, ra⟩ | exact ⟨q0, q1, q2, q3, q4, q5, q6, q7, q8, q9, qa⟩ | go_keep)
    (first
      | (go_at_call 27
         (with_reducible refine (HW1.out _ ?_ ?_).mono ?_)
         · exact HG.out.below HB7.out.drew
         · exact HS.out.below HB7.out.drew
         rintro e w10 ⟨v10, rfl, ho10, hb10⟩
         obtain ⟨a10, c10, rfl, -, -⟩ := ho10.shape
         have hb10' := below_undrew hb10
         have q0 := ((hb10').cell (p := ⟨w.heap.size, 0, none⟩) (cell_lt p0)).trans p0
         have q1 := ((hb10').cell (p := ⟨w.heap.size, 1, none⟩) (cell_lt p0)).trans p1
         have q2 := ((hb10').cell (p := ⟨w.heap.size, 2, none⟩) (cell_lt p0)).trans p2
         have q3 := ((hb10').cell (p := ⟨w4.heap.size, 0, none⟩) (cell_lt p3)).trans p3
         have q4 := ((hb10').cell (p := ⟨w4.heap.size, 1, none⟩) (cell_lt p3)).trans p4
         have q5 := ((hb10').cell (p := ⟨w5.heap.size, 0, none⟩) (cell_lt p5)).trans p5
         have q6 := ((hb10').cell (p := ⟨w5.heap.size, 1, none⟩) (cell_lt p5)).trans p6
         have q7 := ((hb10').cell (p := ⟨w6.heap.size, 0, none⟩) (cell_lt p7)).trans p7
         have q8 := ((hb10').cell (p := ⟨w6.heap.size, 1, none⟩) (cell_lt p7)).trans p8
         have q9 := ((hb10').cell (p := ⟨w7.heap.size, 0, none⟩) (cell_lt p9)).trans p9
         have qa := ((hb10').cell (p := ⟨w7.heap.size, 1, none⟩) (cell_lt p9)).trans pa
         have HB10 := Lib.hid (ext_trans HBR.out hb10')
         have HO10 := Lib.hid ho10
         clear hb10 hb10' ho10)
      | (go_at_call 28
         (with_reducible refine (HW2.out _ ?_).mono ?_)
         · exact HS.out.below (ext_trans HB7.out HB10.out)
         rintro e w11 ⟨v11, rfl, ho11, hb11⟩
         obtain ⟨a11, c11, rfl, -, -⟩ := ho11.shape
         have r0 := ((hb11).cell (p := ⟨w.heap.size, 0, none⟩) (cell_lt q0)).trans q0
         have r1 := ((hb11).cell (p := ⟨w.heap.size, 1, none⟩) (cell_lt q0)).trans q1
         have r2 := ((hb11).cell (p := ⟨w.heap.size, 2, none⟩) (cell_lt q0)).trans q2
         have r3 := ((hb11).cell (p := ⟨w4.heap.size, 0, none⟩) (cell_lt q3)).trans q3
         have r4 := ((hb11).cell (p := ⟨w4.heap.size, 1, none⟩) (cell_lt q3)).trans q4
         have r5 := ((hb11).cell (p := ⟨w5.heap.size, 0, none⟩) (cell_lt q5)).trans q5
         have r6 := ((hb11).cell (p := ⟨w5.heap.size, 1, none⟩) (cell_lt q5)).trans q6
         have r7 := ((hb11).cell (p := ⟨w6.heap.size, 0, none⟩) (cell_lt q7)).trans q7
         have r8 := ((hb11).cell (p := ⟨w6.heap.size, 1, none⟩) (cell_lt q7)).trans q8
         have r9 := ((hb11).cell (p := ⟨w7.heap.size, 0, none⟩) (cell_lt q9)).trans q9
         have ra := ((hb11).cell (p := ⟨w7.heap.size, 1, none⟩) (cell_lt q9)).trans qa
         have HB11 := Lib.hid (ext_trans HB10.out hb11)
         have HO11 := Lib.hid ho11
         have HO10' := Lib.hid (HO10.out.below hb11)
         clear hb11 ho11)
      | (go_at_call 26
         (with_reducible refine (ref_SameChanges _ _ rw' rw' _ ?_ ?_).mono ?_)
         · exact HO10'.out
         · exact HO11.out
         rintro e w12 ⟨rfl, hb12⟩
         have x0 := ((hb12).cell (p := ⟨w.heap.size, 0, none⟩) (cell_lt r0)).trans r0
         have x1 := ((hb12).cell (p := ⟨w.heap.size, 1, none⟩) (cell_lt r0)).trans r1
         have x2 := ((hb12).cell (p := ⟨w.heap.size, 2, none⟩) (cell_lt r0)).trans r2
         have x3 := ((hb12).cell (p := ⟨w4.heap.size, 0, none⟩) (cell_lt r3)).trans r3
         have x4 := ((hb12).cell (p := ⟨w4.heap.size, 1, none⟩) (cell_lt r3)).trans r4
         have x5 := ((hb12).cell (p := ⟨w5.heap.size, 0, none⟩) (cell_lt r5)).trans r5
         have x6 := ((hb12).cell (p := ⟨w5.heap.size, 1, none⟩) (cell_lt r5)).trans r6
         have x7 := ((hb12).cell (p := ⟨w6.heap.size, 0, none⟩) (cell_lt r7)).trans r7
         have x8 := ((hb12).cell (p := ⟨w6.heap.size, 1, none⟩) (cell_lt r7)).trans r8
         have x9 := ((hb12).cell (p := ⟨w7.heap.size, 0, none⟩) (cell_lt r9)).trans r9
         have xa := ((hb12).cell (p := ⟨w7.heap.size, 1, none⟩) (cell_lt r9)).trans ra
         have HB12 := Lib.hid (ext_trans HB11.out hb12)
         clear hb12))
  go_wp2_with fail
  go_ret
  exact ⟨ret_bool (by simp [sameC]), ext_trans HB7.out HB12.out⟩
end Go.Proofs.YtlbcfmhpkcpmaaaGreatDoor
