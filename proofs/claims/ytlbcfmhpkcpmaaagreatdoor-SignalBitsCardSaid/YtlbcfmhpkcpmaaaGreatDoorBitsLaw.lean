import Derived.Test.YtlbcfmhpkcpmaaaGreatDoorShifts
import Derived.Test.YtlbcfmhpkcpmaaaGreatDoorPl6
namespace Go.Proofs.YtlbcfmhpkcpmaaaGreatDoor
open Go.RowKit

/-- what the law knows of the first slice -/
def SlGot (n : Int) (l : List Ch) (from_ width wd e : Int) (p : List Ch) : Prop :=
  (e = 2 ∧ p = [] ∧ wd = 0) ∨ (e = 0 ∧ wd = width ∧ SlOk n from_ width ∧ sv 0 width p = true ∧ sliceR 0 n l from_ width = ((0, width, p), 0) ∧ ∀ t, val (vi 0 width) p t = slB from_ width (val (vi 0 n) l t))
theorem slGot {n : Int} {l : List Ch} (from_ width : Int) (h : sv 0 n l = true) : ∃ wd p e, sliceR 0 n l from_ width = ((0, wd, p), e) ∧ SlGot n l from_ width wd e p ∧ p.length ≤ l.length := by
  rcases slice_cases (from_ := from_) (width := width) h with h1 | h1
  · exact ⟨0, [], 2, h1, .inl ⟨rfl, rfl, rfl⟩, by simp⟩
  · obtain ⟨p, e1, e2, e3, e4⟩ := slice_ok h h1
    exact ⟨width, p, 0, e1, .inr ⟨rfl, rfl, h1, e2, e1, e4⟩, e3⟩
theorem SlGot.fit {n : Int} {l : List Ch} {from_ width wd e : Int} {p : List Ch} (h : SlGot n l from_ width wd e p) : Fit p := by
  rcases h with ⟨-, rfl, -⟩ | ⟨-, -, -, h, -⟩
  · exact ⟨by simp, fun c hc => by cases hc⟩
  · exact sv_fit h

set_option maxHeartbeats 3200000 in
set_option maxRecDepth 100000 in
theorem law_SignalBits (k n from_ width inner narrow : Int) (v : Value) (l : List Ch) (w : World) (hg : Glob w) (hs : SlR w v l.length (chs l)) :
    Calls Tryz.prog 11 #[.agg #[.int .i64 k, .int .i64 n, v], .int .i64 from_, .int .i64 width, .int .i64 inner, .int .i64 narrow] w fun e w' => e = .returned (.bool true) ∧ Below w.heap.size w w' := by
  obtain ⟨a, cap, rfl, hc, hm⟩ := hs.shape
  unfold maxLen at hm
  have HS := Lib.hid hs
  have HG := Lib.hid hg
  have hbw : Below w.heap.size w (w.alloc (.cells #[.int .i64 k, .int .i64 n, .slice a l.length cap] 24)) := (Below.refl _ _).alloc (Nat.le_refl _) _
  have HR0 := Lib.hid (OwnRow.fresh w #[.int .i64 k, .int .i64 n, .slice a l.length cap] 24)
  have HAW := Lib.hid (law_awake _ (HG.out.below hbw))
  have HBW := Lib.hid hbw
  clear hs hg hbw
  go_enter Tryz.func11, Tryz.ntmps11
  go_wp2_with fail
  refine HAW.out.mono ?_
  rintro e w1 ⟨rfl, hb1⟩
  have HR1 := Lib.hid (HR0.out.below hb1 (by simp))
  have HB1 := Lib.hid (HBW.out.trans (hb1.mono HBW.out.size))
  have hl1 : w.heap.size < w1.heap.size := by have := hb1.size; simp at this; omega
  clear hb1 HR0 HAW
  have p0 := HR1.out.cell (j := 0) rfl
  have p1 := HR1.out.cell (j := 1) rfl
  have p2 := HR1.out.cell (j := 2) rfl
  go_wp2_with fail
  refine (ref_Few _ l 40 w1 (HS.out.below HB1.out)).mono ?_
  rintro e w1' ⟨rfl, rfl⟩
  cases hfew : few l 40
  · go_wp2_with fail
    go_ret
    exact ⟨rfl, HB1.out⟩
  obtain ⟨hfit, hl40⟩ := few_fit hfew
  have HF := Lib.hid hfit
  clear hfew hfit
  have HSL := Lib.hid (sig_Slice k n _ l from_ width w1' (HG.out.below HB1.out) (HS.out.below HB1.out) HF.out)
  go_wp2_with fail
  rcases inv_cases (k := k) (n := n) (l := l) from_ width with ⟨er, her, hI, hR⟩ | ⟨hsv, rfl⟩
  · rw [hR] at HSL
    have heb : (er != 0) = true := by rw [bne_iff_ne]; exact her
    refine HSL.out.mono ?_
    rintro e w2 ⟨v2, rfl, ho2, hb2⟩
    obtain ⟨a2, c2, rfl, -, -⟩ := (SlR.of_own ho2).shape
    have HB2 := Lib.hid (ext_trans HB1.out hb2)
    have hl2 : w.heap.size < w2.heap.size := Nat.lt_of_lt_of_le hl1 hb2.size
    have HR2 := Lib.hid ((HR1.out.below hb2 hl1).alloc hl2 (.cells #[.int .i64 0, .int .i64 0, .slice a2 0 c2] 24))
    have hbx : Below w2.heap.size w2 (w2.alloc (.cells #[.int .i64 0, .int .i64 0, .slice a2 0 c2] 24)) := (Below.refl _ _).alloc (Nat.le_refl _) _
    have HX2 := Lib.hid (OwnRow.fresh w2 #[.int .i64 0, .int .i64 0, .slice a2 0 c2] 24)
    have HIN := Lib.hid (sig_Invert k n _ l _ (HG.out.below (ext_trans HB2.out hbx)) (HS.out.below (ext_trans HB2.out hbx)) HF.out)
    rw [hI] at HIN
    have HBX := Lib.hid (ext_trans HB2.out hbx)
    clear ho2 hb2 hR hI her p0 p1 p2 hbx
    have p0 := HR2.out.cell (j := 0) rfl
    have p1 := HR2.out.cell (j := 1) rfl
    have p2 := HR2.out.cell (j := 2) rfl
    go_wp2_with fail
    refine HIN.out.mono ?_
    rintro e w3 ⟨v3, rfl, ho3, hb3⟩
    obtain ⟨a3, c3, rfl, -, -⟩ := (SlR.of_own ho3).shape
    have HB3 := Lib.hid (HBX.out.trans (hb3.mono HBX.out.size))
    have HX3 := Lib.hid ((HX2.out.below hb3 (by simp)).alloc (by have := hb3.size; simp at this; omega) (.cells #[.int .i64 0, .int .i64 0, .slice a3 0 c3] 24))
    clear ho3 hb3 p0 p1 p2
    have q0 := HX3.out.cell (j := 0) rfl
    have q1 := HX3.out.cell (j := 1) rfl
    have q2 := HX3.out.cell (j := 2) rfl
    go_wp2_with fail
    go_ret
    exact ⟨rfl, HB3.out.alloc HB3.out.size _⟩
  · obtain ⟨wd, p, e1, hR, hgot, hpl⟩ := slGot from_ width hsv
    obtain ⟨q, hI, hsq, hql, hqv⟩ := inv_ok hsv
    have HIB := Lib.hid (inv_back hsv hI hsq)
    rw [hR] at HSL
    have HGOT := Lib.hid hgot
    have HFP := Lib.hid hgot.fit
    have HSV := Lib.hid hsv
    have HSQV := Lib.hid hsq
    have HFQ := Lib.hid (sv_fit hsq)
    have HQV := Lib.hid hqv
    have hpl2 : p.length ≤ 40 := by omega
    have hql2 : q.length ≤ 40 := by omega
    clear hR hgot hsv hsq hqv hpl hql
    refine HSL.out.mono ?_
    rintro e w2 ⟨v2, rfl, ho2, hb2⟩
    have hs2 := SlR.of_own ho2
    dsimp only at hs2
    obtain ⟨ap, cp, rfl, -, -⟩ := hs2.shape
    have HSP := Lib.hid hs2
    have HB2 := Lib.hid (ext_trans HB1.out hb2)
    have hl2 : w.heap.size < w2.heap.size := Nat.lt_of_lt_of_le hl1 hb2.size
    have HR2 := Lib.hid ((HR1.out.below hb2 hl1).alloc hl2 (.cells #[.int .i64 0, .int .i64 wd, .slice ap p.length cp] 24))
    have HP2 := Lib.hid (OwnRow.fresh w2 #[.int .i64 0, .int .i64 wd, .slice ap p.length cp] 24)
    have hbx : Below w2.heap.size w2 (w2.alloc (.cells #[.int .i64 0, .int .i64 wd, .slice ap p.length cp] 24)) := (Below.refl _ _).alloc (Nat.le_refl _) _
    have HY2 := Lib.hid hbx
    have HW2 := Lib.hid (ext_trans HB2.out hbx)
    have HIN := Lib.hid (sig_Invert 0 n _ l _ (HG.out.below HW2.out) (HS.out.below HW2.out) HF.out)
    rw [hI] at HIN
    clear ho2 hb2 hs2 hbx hI p0 p1 p2 HSL
    have p0 := HR2.out.cell (j := 0) rfl
    have p1 := HR2.out.cell (j := 1) rfl
    have p2 := HR2.out.cell (j := 2) rfl
    go_wp2_with fail
    refine HIN.out.mono ?_
    rintro e w3 ⟨v3, rfl, ho3, hb3⟩
    have hs3 := SlR.of_own ho3
    dsimp only at hs3
    obtain ⟨aq, cq, rfl, -, -⟩ := hs3.shape
    have HSQ := Lib.hid hs3
    have hl3 : w2.heap.size < w3.heap.size := by have := hb3.size; simp at this; omega
    have HR3 := Lib.hid ((HR2.out.below hb3 (by simp; omega)).alloc (by omega) (.cells #[.int .i64 0, .int .i64 n, .slice aq q.length cq] 24))
    have HP3 := Lib.hid ((HP2.out.below hb3 (by simp)).alloc hl3 (.cells #[.int .i64 0, .int .i64 n, .slice aq q.length cq] 24))
    have HQ3 := Lib.hid (OwnRow.fresh w3 #[.int .i64 0, .int .i64 n, .slice aq q.length cq] 24)
    have hbx : Below w3.heap.size w3 (w3.alloc (.cells #[.int .i64 0, .int .i64 n, .slice aq q.length cq] 24)) := (Below.refl _ _).alloc (Nat.le_refl _) _
    have HV3 := Lib.hid hbx
    have HY3 := Lib.hid (ext_trans (HY2.out.trans (hb3.mono HY2.out.size)) hbx)
    have HW3 := Lib.hid (ext_trans (HW2.out.trans (hb3.mono HW2.out.size)) hbx)
    have hlr3 : w3.heap.size < (w3.alloc (.cells #[.int .i64 0, .int .i64 n, .slice aq q.length cq] 24)).heap.size := by simp
    have HIN2 := Lib.hid (sig_Invert 0 n _ q _ (HG.out.below HW3.out) (HSQ.out.below hbx) HFQ.out)
    rw [HIB.out] at HIN2
    clear ho3 hb3 hs3 hbx p0 p1 p2 HIN
    have p0 := HR3.out.cell (j := 0) rfl
    have p1 := HR3.out.cell (j := 1) rfl
    have p2 := HR3.out.cell (j := 2) rfl
    have b0 := HP3.out.cell (j := 0) rfl
    have b1 := HP3.out.cell (j := 1) rfl
    have b2 := HP3.out.cell (j := 2) rfl
    have q0 := HQ3.out.cell (j := 0) rfl
    have q1 := HQ3.out.cell (j := 1) rfl
    have q2 := HQ3.out.cell (j := 2) rfl
    go_wp2_with fail
    refine HIN2.out.mono ?_
    rintro e w4 ⟨v4, rfl, ho4, hb⟩
    have hs4 := SlR.of_own ho4
    dsimp only at hs4
    obtain ⟨ab, cb, rfl, -, -⟩ := hs4.shape
    have HR4 := Lib.hid (HR3.out.below hb (by omega))
    have HP4 := Lib.hid (HP3.out.below hb (by omega))
    have HQ4 := Lib.hid (HQ3.out.below hb (by omega))
    have HW4 := Lib.hid (ext_trans HW3.out hb)
    have HY4 := Lib.hid (ext_trans HY3.out hb)
    have HV4 := Lib.hid (ext_trans HV3.out hb)
    have hlr4 := Nat.lt_of_lt_of_le hlr3 hb.size
    clear ho4 hb p0 p1 p2 q0 q1 q2 b0 b1 b2 HIN2
    have p0 := HR4.out.cell (j := 0) rfl
    have p1 := HR4.out.cell (j := 1) rfl
    have p2 := HR4.out.cell (j := 2) rfl
    have b0 := HP4.out.cell (j := 0) rfl
    have b1 := HP4.out.cell (j := 1) rfl
    have b2 := HP4.out.cell (j := 2) rfl
    have q0 := HQ4.out.cell (j := 0) rfl
    have q1 := HQ4.out.cell (j := 1) rfl
    have q2 := HQ4.out.cell (j := 2) rfl
    have hbx : Below w4.heap.size w4 (w4.alloc (.cells #[.int .i64 0, .int .i64 n, .slice ab l.length cb] 24)) := (Below.refl _ _).alloc (Nat.le_refl _) _
    have k0 := cell_alloc p0 (.cells #[.int .i64 0, .int .i64 n, .slice ab l.length cb] 24)
    have k1 := cell_alloc p1 (.cells #[.int .i64 0, .int .i64 n, .slice ab l.length cb] 24)
    have k2 := cell_alloc p2 (.cells #[.int .i64 0, .int .i64 n, .slice ab l.length cb] 24)
    have HEQ := Lib.hid (sig_Equal 0 n 0 n _ _ l l _ (hs4.below hbx) (HS.out.below (ext_trans HW4.out hbx)))
    rw [show sEq 0 n l 0 n l = true by simp [sEq, sameC]] at HEQ
    clear hbx hs4
    go_wp2_with fail
    refine HEQ.out.mono ?_
    rintro e w5 ⟨rfl, hb5⟩
    have hb := ext_alloc hb5
    clear hb5 HEQ k0 k1 k2
    have HR5 := Lib.hid (HR4.out.below hb (by omega))
    have HP5 := Lib.hid (HP4.out.below hb (by omega))
    have HQ5 := Lib.hid (HQ4.out.below hb (by omega))
    have HW5 := Lib.hid (ext_trans HW4.out hb)
    have HY5 := Lib.hid (ext_trans HY4.out hb)
    have HV5 := Lib.hid (ext_trans HV4.out hb)
    have hlr5 := Nat.lt_of_lt_of_le hlr4 hb.size
    clear hb p0 p1 p2 q0 q1 q2 b0 b1 b2
    have p0 := HR5.out.cell (j := 0) rfl
    have p1 := HR5.out.cell (j := 1) rfl
    have p2 := HR5.out.cell (j := 2) rfl
    have b0 := HP5.out.cell (j := 0) rfl
    have b1 := HP5.out.cell (j := 1) rfl
    have b2 := HP5.out.cell (j := 2) rfl
    have q0 := HQ5.out.cell (j := 0) rfl
    have q1 := HQ5.out.cell (j := 1) rfl
    have q2 := HQ5.out.cell (j := 2) rfl
    have HVD := Lib.hid (sig_Valid 0 n _ q w5 (HG.out.below HW5.out) (HSQ.out.below HV5.out) HFQ.out)
    rw [HSQV.out] at HVD
    go_wp2_with fail
    refine HVD.out.mono ?_
    rintro e w6 ⟨rfl, hb⟩
    have HR6 := Lib.hid (HR5.out.below hb (by omega))
    have HP6 := Lib.hid (HP5.out.below hb (by omega))
    have HQ6 := Lib.hid (HQ5.out.below hb (by omega))
    have HW6 := Lib.hid (ext_trans HW5.out hb)
    have HY6 := Lib.hid (ext_trans HY5.out hb)
    have HV6 := Lib.hid (ext_trans HV5.out hb)
    have hlr6 := Nat.lt_of_lt_of_le hlr5 hb.size
    clear hb p0 p1 p2 q0 q1 q2 b0 b1 b2 HVD
    have p0 := HR6.out.cell (j := 0) rfl
    have p1 := HR6.out.cell (j := 1) rfl
    have p2 := HR6.out.cell (j := 2) rfl
    have b0 := HP6.out.cell (j := 0) rfl
    have b1 := HP6.out.cell (j := 1) rfl
    have b2 := HP6.out.cell (j := 2) rfl
    have q0 := HQ6.out.cell (j := 0) rfl
    have q1 := HQ6.out.cell (j := 1) rfl
    have q2 := HQ6.out.cell (j := 2) rfl
    go_wp2_with fail
    obtain ⟨hls, hlists⟩ := lists_one (HS.out.below HW6.out) (by omega) (sv_lists HSV.out) 22 (Below.refl _ w6) (Nat.le_refl _)
    refine (law_times _ [(.slice a l.length cap, l)] _ hls hlists (by simp)).mono ?_
    rintro e w7 ⟨ts, at6, ct6, rfl, htl, htm, ho6, hb6⟩
    have hb := ext_alloc hb6
    have HT := Lib.hid htm
    have HST := Lib.hid (SlR.of_own ho6)
    obtain ⟨-, -, htv, htc, htc2⟩ := (SlR.of_own ho6).shape
    have HR7 := Lib.hid (HR6.out.below hb (by omega))
    have HP7 := Lib.hid (HP6.out.below hb (by omega))
    have HQ7 := Lib.hid (HQ6.out.below hb (by omega))
    have HW7 := Lib.hid (ext_trans HW6.out hb)
    have HY7 := Lib.hid (ext_trans HY6.out hb)
    have HV7 := Lib.hid (ext_trans HV6.out hb)
    have hlr7 := Nat.lt_of_lt_of_le hlr6 hb.size
    clear hls hlists htm ho6 hb6 hb p0 p1 p2 q0 q1 q2 b0 b1 b2
    have p0 := HR7.out.cell (j := 0) rfl
    have p1 := HR7.out.cell (j := 1) rfl
    have p2 := HR7.out.cell (j := 2) rfl
    have b0 := HP7.out.cell (j := 0) rfl
    have b1 := HP7.out.cell (j := 1) rfl
    have b2 := HP7.out.cell (j := 2) rfl
    have q0 := HQ7.out.cell (j := 0) rfl
    have q1 := HQ7.out.cell (j := 1) rfl
    have q2 := HQ7.out.cell (j := 2) rfl
    go_wp2_with fail
    go_loopw [85] (fun i wr => ∃ (j : Nat), j ≤ ts.length ∧ i = .int .i64 j ∧ Below w7.heap.size w7 wr)
      (fun i _ => ts.length - (intOf i).toNat)
    case atStart => exact ⟨0, Nat.zero_le _, rfl, Below.refl _ _⟩
    case round =>
      obtain ⟨j, hj, rfl, hb⟩ := hrel
      have HRr := Lib.hid (HR7.out.below hb (by omega))
      have HPr := Lib.hid (HP7.out.below hb (by omega))
      have HQr := Lib.hid (HQ7.out.below hb (by omega))
      have HWr := Lib.hid (ext_trans HW7.out hb)
      have HYr := Lib.hid (ext_trans HY7.out hb)
      have HVr := Lib.hid (ext_trans HV7.out hb)
      have hlrr := Nat.lt_of_lt_of_le hlr7 hb.size
      have HZr := Lib.hid hb
      have hw := nat_wrap j (by omega)
      clear hb p0 p1 p2 q0 q1 q2 b0 b1 b2
      have p0 := HRr.out.cell (j := 0) rfl
      have p1 := HRr.out.cell (j := 1) rfl
      have p2 := HRr.out.cell (j := 2) rfl
      have b0 := HPr.out.cell (j := 0) rfl
      have b1 := HPr.out.cell (j := 1) rfl
      have b2 := HPr.out.cell (j := 2) rfl
      have q0 := HQr.out.cell (j := 0) rfl
      have q1 := HQr.out.cell (j := 1) rfl
      have q2 := HQr.out.cell (j := 2) rfl
      by_cases hlt : j < ts.length
      · obtain ⟨b6, o6, rfl, d0⟩ := (HST.out.below HZr.out).int hlt
        obtain ⟨hu0, hu1⟩ := HT.out ts[j] (List.getElem_mem hlt)
        generalize ts[j] = u at d0 hu0 hu1
        obtain ⟨x, hx⟩ : ∃ x, val (vi 0 n) l u = x := ⟨_, rfl⟩
        have hxv : vv 0 n x = true := by rw [← hx]; exact val_vv HSV.out u
        have hxs : x.size ≤ maxLen := by have := vv_size hxv; unfold maxLen; omega
        have HAs := Lib.hid (fun W hW hS => sig_At_ok 0 n (.slice a l.length cap) l u x W hW hS HSV.out hu0 hu1 hx)
        have HAq := Lib.hid (fun W hW hS => sig_At_ok 0 n (.slice aq q.length cq) q u (bvInv x) W hW hS HSQV.out hu0 hu1 (by rw [HQV.out u, hx]))
        have HXX := Lib.hid hx
        have HXV := Lib.hid hxv
        clear hx hxv
        go_wp2_with fail
        refine (HAs.out _ (HG.out.below HWr.out) (HS.out.below HWr.out)).mono ?_
        rintro e w8 ⟨rfl, hb⟩
        have HR8 := Lib.hid (HRr.out.below hb (by omega))
        have HP8 := Lib.hid (HPr.out.below hb (by omega))
        have HQ8 := Lib.hid (HQr.out.below hb (by omega))
        have HW8 := Lib.hid (ext_trans HWr.out hb)
        have HY8 := Lib.hid (ext_trans HYr.out hb)
        have HV8 := Lib.hid (ext_trans HVr.out hb)
        have hlr8 := Nat.lt_of_lt_of_le hlrr hb.size
        have HZ8 := Lib.hid (ext_trans HZr.out hb)
        clear hb p0 p1 p2 q0 q1 q2 b0 b1 b2
        have p0 := HR8.out.cell (j := 0) rfl
        have p1 := HR8.out.cell (j := 1) rfl
        have p2 := HR8.out.cell (j := 2) rfl
        have b0 := HP8.out.cell (j := 0) rfl
        have b1 := HP8.out.cell (j := 1) rfl
        have b2 := HP8.out.cell (j := 2) rfl
        have q0 := HQ8.out.cell (j := 0) rfl
        have q1 := HQ8.out.cell (j := 1) rfl
        have q2 := HQ8.out.cell (j := 2) rfl
        go_wp2_with fail
        refine (HAq.out _ (HG.out.below HW8.out) (HSQ.out.below HV8.out)).mono ?_
        rintro e w9 ⟨rfl, hb⟩
        have HR9 := Lib.hid (HR8.out.below hb (by omega))
        have HP9 := Lib.hid (HP8.out.below hb (by omega))
        have HQ9 := Lib.hid (HQ8.out.below hb (by omega))
        have HW9 := Lib.hid (ext_trans HW8.out hb)
        have HY9 := Lib.hid (ext_trans HY8.out hb)
        have HV9 := Lib.hid (ext_trans HV8.out hb)
        have hlr9 := Nat.lt_of_lt_of_le hlr8 hb.size
        have HZ9 := Lib.hid (ext_trans HZ8.out hb)
        clear hb p0 p1 p2 q0 q1 q2 b0 b1 b2
        have p0 := HR9.out.cell (j := 0) rfl
        have p1 := HR9.out.cell (j := 1) rfl
        have p2 := HR9.out.cell (j := 2) rfl
        have b0 := HP9.out.cell (j := 0) rfl
        have b1 := HP9.out.cell (j := 1) rfl
        have b2 := HP9.out.cell (j := 2) rfl
        have q0 := HQ9.out.cell (j := 0) rfl
        have q1 := HQ9.out.cell (j := 1) rfl
        have q2 := HQ9.out.cell (j := 2) rfl
        go_wp2_with fail
        refine (bits_Inverse x _ hxs).mono ?_
        rintro e w10 ⟨rfl, hb⟩
        have HR10 := Lib.hid (HR9.out.below hb (by omega))
        have HP10 := Lib.hid (HP9.out.below hb (by omega))
        have HQ10 := Lib.hid (HQ9.out.below hb (by omega))
        have HW10 := Lib.hid (ext_trans HW9.out hb)
        have HY10 := Lib.hid (ext_trans HY9.out hb)
        have HV10 := Lib.hid (ext_trans HV9.out hb)
        have hlr10 := Nat.lt_of_lt_of_le hlr9 hb.size
        have HZ10 := Lib.hid (ext_trans HZ9.out hb)
        clear hb p0 p1 p2 q0 q1 q2 b0 b1 b2
        have p0 := HR10.out.cell (j := 0) rfl
        have p1 := HR10.out.cell (j := 1) rfl
        have p2 := HR10.out.cell (j := 2) rfl
        have b0 := HP10.out.cell (j := 0) rfl
        have b1 := HP10.out.cell (j := 1) rfl
        have b2 := HP10.out.cell (j := 2) rfl
        have q0 := HQ10.out.cell (j := 0) rfl
        have q1 := HQ10.out.cell (j := 1) rfl
        have q2 := HQ10.out.cell (j := 2) rfl
        rcases HGOT.out with ⟨he1, -, -⟩ | ⟨he1, hwd, hsok, hsp, -, hpv⟩
        · subst he1
          go_wp2_with fail
          go_roundw
          case rel => exact ⟨j + 1, by omega, by go_num, HZ10.out⟩
          case measure => simp [intOf]; omega
        · subst he1 hwd
          have HAp := Lib.hid (fun W hW hS => sig_At_ok 0 wd (.slice ap p.length cp) p u (slB from_ wd x) W hW hS hsp hu0 hu1 (by rw [hpv u, HXX.out]))
          have HSZ := Lib.hid ((slR_zero (from_ := from_) (width := wd) HXV.out).2 hsok)
          clear hsok hsp hpv
          go_wp2_with fail
          refine (HAp.out _ (HG.out.below HW10.out) (HSP.out.below HY10.out)).mono ?_
          rintro e w11 ⟨rfl, hb⟩
          have HR11 := Lib.hid (HR10.out.below hb (by omega))
          have HP11 := Lib.hid (HP10.out.below hb (by omega))
          have HQ11 := Lib.hid (HQ10.out.below hb (by omega))
          have HW11 := Lib.hid (ext_trans HW10.out hb)
          have HY11 := Lib.hid (ext_trans HY10.out hb)
          have HV11 := Lib.hid (ext_trans HV10.out hb)
          have hlr11 := Nat.lt_of_lt_of_le hlr10 hb.size
          have HZ11 := Lib.hid (ext_trans HZ10.out hb)
          clear hb p0 p1 p2 q0 q1 q2 b0 b1 b2
          have p0 := HR11.out.cell (j := 0) rfl
          have p1 := HR11.out.cell (j := 1) rfl
          have p2 := HR11.out.cell (j := 2) rfl
          have b0 := HP11.out.cell (j := 0) rfl
          have b1 := HP11.out.cell (j := 1) rfl
          have b2 := HP11.out.cell (j := 2) rfl
          have q0 := HQ11.out.cell (j := 0) rfl
          have q1 := HQ11.out.cell (j := 1) rfl
          have q2 := HQ11.out.cell (j := 2) rfl
          go_wp2_with fail
          refine (bits_Slice x from_ wd _ hxs).mono ?_
          rintro e w12 ⟨rfl, hb⟩
          have HR12 := Lib.hid (HR11.out.below hb (by omega))
          have HP12 := Lib.hid (HP11.out.below hb (by omega))
          have HQ12 := Lib.hid (HQ11.out.below hb (by omega))
          have HW12 := Lib.hid (ext_trans HW11.out hb)
          have HY12 := Lib.hid (ext_trans HY11.out hb)
          have HV12 := Lib.hid (ext_trans HV11.out hb)
          have hlr12 := Nat.lt_of_lt_of_le hlr11 hb.size
          have HZ12 := Lib.hid (ext_trans HZ11.out hb)
          clear hb p0 p1 p2 q0 q1 q2 b0 b1 b2
          have p0 := HR12.out.cell (j := 0) rfl
          have p1 := HR12.out.cell (j := 1) rfl
          have p2 := HR12.out.cell (j := 2) rfl
          have b0 := HP12.out.cell (j := 0) rfl
          have b1 := HP12.out.cell (j := 1) rfl
          have b2 := HP12.out.cell (j := 2) rfl
          have q0 := HQ12.out.cell (j := 0) rfl
          have q1 := HQ12.out.cell (j := 1) rfl
          have q2 := HQ12.out.cell (j := 2) rfl
          rw [HSZ.out, show (slR x from_ wd).1 = slB from_ wd x from rfl]
          go_wp2_with fail
          go_roundw
          case rel => exact ⟨j + 1, by omega, by go_num, HZ12.out⟩
          case measure => simp [intOf]; omega
      · obtain rfl : j = ts.length := by omega
        rcases HGOT.out with ⟨he1, -, -⟩ | ⟨he1, hwd, hsok, hsp, hspl, hpv⟩
        · subst he1
          go_wp2_with fail
          go_ret
          exact ⟨rfl, HWr.out⟩
        · subst he1 hwd
          have HSPV := Lib.hid hsp
          have HS2 := Lib.hid (sig_Slice 0 wd _ p inner narrow wr (HG.out.below HWr.out) (HSP.out.below HYr.out) HFP.out)
          by_cases hin : SlOk wd inner narrow
          · obtain ⟨x, f1, f2, f3⟩ := slice_slice HSV.out hsok hspl hsp hin
            rw [f1] at HS2
            have hxl : x.length ≤ 40 := by omega
            have hadd : IntKind.i64.wrap (from_ + inner) = from_ + inner := IntWalk.i64_in _ (by
              have hvt := (sv_iff.1 HSV.out).1
              unfold vt at hvt
              have h3 : 1 ≤ n ∧ n ≤ 128 := by simpa using hvt
              unfold SlOk at hin hsok
              omega)
            have HF2 := Lib.hid f2
            clear f1 f2 f3 hsok hsp hspl hpv hin
            go_wp2_with fail
            refine HS2.out.mono ?_
            rintro e w8 ⟨v8, rfl, ho8, hb⟩
            have hs8 := SlR.of_own ho8
            dsimp only at hs8
            obtain ⟨a8, c8, rfl, -, -⟩ := hs8.shape
            have HR8 := Lib.hid (HRr.out.below hb (by omega))
            have HP8 := Lib.hid (HPr.out.below hb (by omega))
            have HQ8 := Lib.hid (HQr.out.below hb (by omega))
            have HW8 := Lib.hid (ext_trans HWr.out hb)
            have HY8 := Lib.hid (ext_trans HYr.out hb)
            have HV8 := Lib.hid (ext_trans HVr.out hb)
            have hlr8 := Nat.lt_of_lt_of_le hlrr hb.size
            clear ho8 hb p0 p1 p2 q0 q1 q2 b0 b1 b2 HS2
            have p0 := HR8.out.cell (j := 0) rfl
            have p1 := HR8.out.cell (j := 1) rfl
            have p2 := HR8.out.cell (j := 2) rfl
            have b0 := HP8.out.cell (j := 0) rfl
            have b1 := HP8.out.cell (j := 1) rfl
            have b2 := HP8.out.cell (j := 2) rfl
            have q0 := HQ8.out.cell (j := 0) rfl
            have q1 := HQ8.out.cell (j := 1) rfl
            have q2 := HQ8.out.cell (j := 2) rfl
            have hbx : Below w8.heap.size w8 (w8.alloc (.cells #[.int .i64 0, .int .i64 narrow, .slice a8 x.length c8] 24)) := (Below.refl _ _).alloc (Nat.le_refl _) _
            have k0 := cell_alloc p0 (.cells #[.int .i64 0, .int .i64 narrow, .slice a8 x.length c8] 24)
            have k1 := cell_alloc p1 (.cells #[.int .i64 0, .int .i64 narrow, .slice a8 x.length c8] 24)
            have k2 := cell_alloc p2 (.cells #[.int .i64 0, .int .i64 narrow, .slice a8 x.length c8] 24)
            have HX8 := Lib.hid (hs8)
            have HS3 := Lib.hid (sig_Slice 0 n _ l (from_ + inner) narrow _ (HG.out.below (ext_trans HW8.out hbx)) (HS.out.below (ext_trans HW8.out hbx)) HF.out)
            rw [HF2.out] at HS3
            clear hbx hs8
            go_wp2_with fail
            refine HS3.out.mono ?_
            rintro e w9 ⟨v9, rfl, ho9, hb9⟩
            have hs9 := SlR.of_own ho9
            dsimp only at hs9
            obtain ⟨a9, c9, rfl, -, -⟩ := hs9.shape
            obtain ⟨m0, m1, m2⟩ := box3 hb9
            have hb := ext_alloc hb9
            have HX9 := Lib.hid (HX8.out.below hb)
            have HR9 := Lib.hid (HR8.out.below hb (by omega))
            have HP9 := Lib.hid (HP8.out.below hb (by omega))
            have HQ9 := Lib.hid (HQ8.out.below hb (by omega))
            have HW9 := Lib.hid (ext_trans HW8.out hb)
            have HY9 := Lib.hid (ext_trans HY8.out hb)
            have HV9 := Lib.hid (ext_trans HV8.out hb)
            have hlr9 := Nat.lt_of_lt_of_le hlr8 hb.size
            clear ho9 hb9 hb p0 p1 p2 q0 q1 q2 b0 b1 b2 HS3 k0 k1 k2
            have p0 := HR9.out.cell (j := 0) rfl
            have p1 := HR9.out.cell (j := 1) rfl
            have p2 := HR9.out.cell (j := 2) rfl
            have b0 := HP9.out.cell (j := 0) rfl
            have b1 := HP9.out.cell (j := 1) rfl
            have b2 := HP9.out.cell (j := 2) rfl
            have q0 := HQ9.out.cell (j := 0) rfl
            have q1 := HQ9.out.cell (j := 1) rfl
            have q2 := HQ9.out.cell (j := 2) rfl
            have j0 := cell_alloc b0 (.cells #[.int .i64 0, .int .i64 narrow, .slice a9 x.length c9] 24)
            have j1 := cell_alloc b1 (.cells #[.int .i64 0, .int .i64 narrow, .slice a9 x.length c9] 24)
            have j2 := cell_alloc b2 (.cells #[.int .i64 0, .int .i64 narrow, .slice a9 x.length c9] 24)
            have hbx : Below w9.heap.size w9 (w9.alloc (.cells #[.int .i64 0, .int .i64 narrow, .slice a9 x.length c9] 24)) := (Below.refl _ _).alloc (Nat.le_refl _) _
            have HVP := Lib.hid (sig_Valid 0 wd _ p _ (HG.out.below (ext_trans HW9.out hbx)) (HSP.out.below (ext_trans HY9.out hbx)) HFP.out)
            rw [HSPV.out] at HVP
            have hs9x := hs9.below hbx
            have HX9x := Lib.hid (HX9.out.below hbx)
            have HW9x := Lib.hid (ext_trans HW9.out hbx)
            clear hbx
            go_wp2_with fail
            refine HVP.out.mono ?_
            rintro e w10 ⟨rfl, hb10⟩
            obtain ⟨y0, y1, y2⟩ := box3 hb10
            have hb10' := ext_alloc hb10
            have m0' := (hb10'.cell (p := ⟨w8.heap.size, 0, none⟩) (cell_lt m0)).trans m0
            have m1' := (hb10'.cell (p := ⟨w8.heap.size, 1, none⟩) (cell_lt m0)).trans m1
            have m2' := (hb10'.cell (p := ⟨w8.heap.size, 2, none⟩) (cell_lt m0)).trans m2
            have HEQ := Lib.hid (sig_Equal 0 narrow 0 narrow _ _ x x w10 (HX9.out.below hb10') (hs9.below hb10'))
            rw [show sEq 0 narrow x 0 narrow x = true by simp [sEq, sameC]] at HEQ
            have HW10 := Lib.hid (ext_trans HW9.out hb10')
            clear hb10 hb10' m0 m1 m2 j0 j1 j2 hs9 hs9x HVP
            go_wp2_with fail
            refine HEQ.out.mono ?_
            rintro e w11 ⟨rfl, hb⟩
            have HW11 := Lib.hid (ext_trans HW10.out hb)
            clear hb
            go_wp2_with fail
            go_ret
            exact ⟨rfl, HW11.out⟩
          · have hsl : sliceR 0 wd p inner narrow = ((0, 0, []), 2) := (slice_cases hsp).resolve_right hin
            rw [hsl] at HS2
            clear hsl hsok hsp hspl hpv hin
            go_wp2_with fail
            refine HS2.out.mono ?_
            rintro e w8 ⟨v8, rfl, ho8, hb⟩
            obtain ⟨a8, c8, rfl, -, -⟩ := (SlR.of_own ho8).shape
            have HR8 := Lib.hid (HRr.out.below hb (by omega))
            have HP8 := Lib.hid (HPr.out.below hb (by omega))
            have HQ8 := Lib.hid (HQr.out.below hb (by omega))
            have HW8 := Lib.hid (ext_trans HWr.out hb)
            have HY8 := Lib.hid (ext_trans HYr.out hb)
            have HV8 := Lib.hid (ext_trans HVr.out hb)
            have hlr8 := Nat.lt_of_lt_of_le hlrr hb.size
            clear ho8 hb p0 p1 p2 q0 q1 q2 b0 b1 b2 HS2
            have p0 := HR8.out.cell (j := 0) rfl
            have p1 := HR8.out.cell (j := 1) rfl
            have p2 := HR8.out.cell (j := 2) rfl
            have b0 := HP8.out.cell (j := 0) rfl
            have b1 := HP8.out.cell (j := 1) rfl
            have b2 := HP8.out.cell (j := 2) rfl
            have q0 := HQ8.out.cell (j := 0) rfl
            have q1 := HQ8.out.cell (j := 1) rfl
            have q2 := HQ8.out.cell (j := 2) rfl
            have j0 := cell_alloc b0 (.cells #[.int .i64 0, .int .i64 0, .slice a8 0 c8] 24)
            have j1 := cell_alloc b1 (.cells #[.int .i64 0, .int .i64 0, .slice a8 0 c8] 24)
            have j2 := cell_alloc b2 (.cells #[.int .i64 0, .int .i64 0, .slice a8 0 c8] 24)
            have hbx : Below w8.heap.size w8 (w8.alloc (.cells #[.int .i64 0, .int .i64 0, .slice a8 0 c8] 24)) := (Below.refl _ _).alloc (Nat.le_refl _) _
            have HVP := Lib.hid (sig_Valid 0 wd _ p _ (HG.out.below (ext_trans HW8.out hbx)) (HSP.out.below (ext_trans HY8.out hbx)) HFP.out)
            rw [HSPV.out] at HVP
            have HWx := Lib.hid (ext_trans HW8.out hbx)
            clear hbx
            go_wp2_with fail
            refine HVP.out.mono ?_
            rintro e w10 ⟨rfl, hb10⟩
            have HW10 := Lib.hid (HWx.out.trans (hb10.mono HWx.out.size))
            clear hb10
            go_wp2_with fail
            go_ret
            exact ⟨rfl, HW10.out⟩
end Go.Proofs.YtlbcfmhpkcpmaaaGreatDoor
