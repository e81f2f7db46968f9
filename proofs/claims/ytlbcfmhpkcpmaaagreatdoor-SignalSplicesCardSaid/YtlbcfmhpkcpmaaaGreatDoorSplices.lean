import Derived.Test.YtlbcfmhpkcpmaaaGreatDoorShifts
import Derived.Test.YtlbcfmhpkcpmaaaGreatDoorPl4
namespace Go.Proofs.YtlbcfmhpkcpmaaaGreatDoor
open Go.RowKit

set_option maxHeartbeats 3200000 in
set_option maxRecDepth 100000 in
theorem law_SignalSplices (k n k2 n2 t : Int) (v v2 : Value) (l m : List Ch) (w : World) (hg : Glob w) (hs : SlR w v l.length (chs l)) (hs2 : SlR w v2 m.length (chs m)) :
    Calls Tryz.prog 10 #[.agg #[.int .i64 k, .int .i64 n, v], .agg #[.int .i64 k2, .int .i64 n2, v2], .int .i64 t] w fun e w' => e = .returned (.bool true) ∧ Below w.heap.size w w' := by
  obtain ⟨a, cap, rfl, hc, hm⟩ := hs.shape
  obtain ⟨a2, cap2, rfl, hc2, hm2⟩ := hs2.shape
  unfold maxLen at hm hm2
  have HS := Lib.hid hs
  have HSB := Lib.hid hs2
  have HG := Lib.hid hg
  have hbw : Below w.heap.size w ((w.alloc (.cells #[.int .i64 k, .int .i64 n, .slice a l.length cap] 24)).alloc (.cells #[.int .i64 k2, .int .i64 n2, .slice a2 m.length cap2] 24)) := ((Below.refl _ _).alloc (Nat.le_refl _) _).alloc (by simp) _
  have HR0 := Lib.hid ((OwnRow.fresh w #[.int .i64 k, .int .i64 n, .slice a l.length cap] 24).alloc (by simp) (.cells #[.int .i64 k2, .int .i64 n2, .slice a2 m.length cap2] 24))
  have hq0 := OwnRow.fresh (w.alloc (.cells #[.int .i64 k, .int .i64 n, .slice a l.length cap] 24)) #[.int .i64 k2, .int .i64 n2, .slice a2 m.length cap2] 24
  simp only [World.size_alloc] at hq0
  have HQ0 := Lib.hid hq0
  have HAW := Lib.hid (law_awake _ (HG.out.below hbw))
  have HBW := Lib.hid hbw
  clear hs hg hbw hq0 hs2
  go_enter Tryz.func10, Tryz.ntmps10
  go_wp2_with fail
  refine HAW.out.mono ?_
  rintro e w1 ⟨rfl, hb1⟩
  have HR1 := Lib.hid (HR0.out.below hb1 (by simp; omega))
  have HQ1 := Lib.hid (HQ0.out.below hb1 (by simp))
  have HB1 := Lib.hid (HBW.out.trans (hb1.mono HBW.out.size))
  have hl1 : w.heap.size + 1 < w1.heap.size := by have := hb1.size; simp at this; omega
  clear hb1 HR0 HQ0 HAW
  have p0 := HR1.out.cell (j := 0) rfl
  have p1 := HR1.out.cell (j := 1) rfl
  have p2 := HR1.out.cell (j := 2) rfl
  have b0 := HQ1.out.cell (j := 0) rfl
  have b1 := HQ1.out.cell (j := 1) rfl
  have b2 := HQ1.out.cell (j := 2) rfl
  go_wp2_with fail
  refine (ref_Few _ l 40 w1 (HS.out.below HB1.out)).mono ?_
  rintro e w1' ⟨rfl, rfl⟩
  cases hfew : few l 40
  · go_wp2_with fail
    go_ret
    exact ⟨rfl, HB1.out⟩
  obtain ⟨hfit, hl40⟩ := few_fit hfew
  have HF := Lib.hid hfit
  clear hfew hfit
  go_wp2_with fail
  refine (ref_Few _ m 40 w1' (HSB.out.below HB1.out)).mono ?_
  rintro e w1 ⟨rfl, hw1e⟩
  subst hw1e
  cases hfew : few m 40
  · go_wp2_with fail
    go_ret
    exact ⟨rfl, HB1.out⟩
  obtain ⟨hfit, hm40⟩ := few_fit hfew
  have HFB := Lib.hid hfit
  clear hfew hfit
  go_wp2_with fail
  have HSH := Lib.hid (sig_Splice k n k2 n2 _ _ l m t w1 (HG.out.below HB1.out) (HS.out.below HB1.out) HF.out (HSB.out.below HB1.out) HFB.out)
  rcases splice_cases (k := k) (n := n) (k2 := k2) (n2 := n2) (l := l) (m := m) (t := t) with ⟨er, her, hR⟩ | ⟨hsv, hsvb, hke, hne, ht0, ht1⟩
  · rw [hR] at HSH
    have heb : (er != 0) = true := by rw [bne_iff_ne]; exact her
    clear hR her
    refine HSH.out.mono ?_
    rintro e w2 ⟨v2, rfl, ho2, hb2⟩
    obtain ⟨az, cz, rfl, -, -⟩ := (SlR.of_own ho2).shape
    have HB2 := Lib.hid (ext_trans HB1.out hb2)
    clear ho2 hb2
    go_wp2_with fail
    go_ret
    exact ⟨rfl, HB2.out.alloc HB2.out.size _⟩
  · subst hke hne
    obtain ⟨s, hR, hss, hsl, hval, hhas⟩ := splice_ok hsv hsvb (by omega) (by omega) ht0 ht1
    have HBACK := Lib.hid (splice_self hsv (by omega) ht0 ht1)
    rw [hR] at HSH
    have HSV := Lib.hid hsv
    have HSVB := Lib.hid hsvb
    have HSS := Lib.hid hss
    have HVAL := Lib.hid hval
    have HHAS := Lib.hid hhas
    have HFS := Lib.hid (sv_fit hss)
    have hsl2 : s.length ≤ 81 := by omega
    clear hR hsv hsvb hss hval hhas hsl
    refine HSH.out.mono ?_
    rintro e w2 ⟨v2, rfl, ho2, hb2⟩
    have hs2 := SlR.of_own ho2
    dsimp only at hs2
    obtain ⟨az, cz, rfl, -, -⟩ := hs2.shape
    have HS2 := Lib.hid hs2
    have HB2 := Lib.hid (ext_trans HB1.out hb2)
    have hl2 : w.heap.size + 1 < w2.heap.size := Nat.lt_of_lt_of_le hl1 hb2.size
    have HR2 := Lib.hid ((HR1.out.below hb2 (by omega)).alloc (by omega) (.cells #[.int .i64 k2, .int .i64 n2, .slice az s.length cz] 24))
    have HQ2 := Lib.hid ((HQ1.out.below hb2 (by omega)).alloc (by omega) (.cells #[.int .i64 k2, .int .i64 n2, .slice az s.length cz] 24))
    have hbx : Below w2.heap.size w2 (w2.alloc (.cells #[.int .i64 k2, .int .i64 n2, .slice az s.length cz] 24)) := (Below.refl _ _).alloc (Nat.le_refl _) _
    have HX2 := Lib.hid (OwnRow.fresh w2 #[.int .i64 k2, .int .i64 n2, .slice az s.length cz] 24)
    have HV := Lib.hid (sig_Valid k2 n2 _ s _ (HG.out.below (ext_trans HB2.out hbx)) (HS2.out.below hbx) HFS.out)
    rw [HSS.out] at HV
    have HBX := Lib.hid hbx
    clear ho2 hb2 hs2 HSH p0 p1 p2 b0 b1 b2 hbx
    have p0 := HR2.out.cell (j := 0) rfl
    have p1 := HR2.out.cell (j := 1) rfl
    have p2 := HR2.out.cell (j := 2) rfl
    have b0 := HQ2.out.cell (j := 0) rfl
    have b1 := HQ2.out.cell (j := 1) rfl
    have b2 := HQ2.out.cell (j := 2) rfl
    go_wp2_with fail
    refine HV.out.mono ?_
    rintro e w3 ⟨rfl, hb3⟩
    have HR3 := Lib.hid (HR2.out.below hb3 (by simp; omega))
    have HQ3 := Lib.hid (HQ2.out.below hb3 (by simp; omega))
    have HX3 := Lib.hid (HX2.out.below hb3 (by simp))
    have HB23 := Lib.hid (HBX.out.trans (hb3.mono HBX.out.size))
    clear hb3 p0 p1 p2 b0 b1 b2 HR2 HQ2 HX2 HV
    have p0 := HR3.out.cell (j := 0) rfl
    have p1 := HR3.out.cell (j := 1) rfl
    have p2 := HR3.out.cell (j := 2) rfl
    have b0 := HQ3.out.cell (j := 0) rfl
    have b1 := HQ3.out.cell (j := 1) rfl
    have b2 := HQ3.out.cell (j := 2) rfl
    have q0 := HX3.out.cell (j := 0) rfl
    have q1 := HX3.out.cell (j := 1) rfl
    have q2 := HX3.out.cell (j := 2) rfl
    go_wp2_with fail
    obtain ⟨hls, hlists⟩ := lists_two (W := w3) (HS.out.below (ext_trans HB2.out HB23.out)) (by omega) (sv_lists HSV.out) (HSB.out.below (ext_trans HB2.out HB23.out)) (by omega) (sv_lists HSVB.out) 22 (Below.refl _ w3)
    refine (law_times _ [(.slice a l.length cap, l), (.slice a2 m.length cap2, m)] _ hls hlists (by simp)).mono ?_
    rintro e w6 ⟨ts, at6, ct6, rfl, htl, htm, ho6, hb6⟩
    have hb6' := ext_alloc hb6
    have HB26 := Lib.hid (ext_trans HB23.out hb6')
    have hl3 : w2.heap.size < w3.heap.size := cell_lt q0
    have HR6 := Lib.hid (HR3.out.below hb6' (by omega))
    have HQ6 := Lib.hid (HQ3.out.below hb6' (by omega))
    have HX6 := Lib.hid (HX3.out.below hb6' hl3)
    have HB6 := Lib.hid (ext_trans HB2.out HB26.out)
    have HT := Lib.hid htm
    have HO6 := Lib.hid ho6
    have hl6 : w2.heap.size < w6.heap.size := Nat.lt_of_lt_of_le hl3 hb6'.size
    have HBT := Lib.hid hb6'
    clear hls hlists htm ho6 hb6 hb6' p0 p1 p2 q0 q1 q2 b0 b1 b2 HR3 HQ3 HX3
    have hw1 : IntKind.i64.wrap (t - 1) = t - 1 := IntWalk.i64_in _ (by omega)
    obtain ⟨i0, hi, iz0, iz1, iz2⟩ := info_parts (P := Tryz.prog) int_info
    have hsz6 := HB6.out.size
    go_wp2_with (at_builtin; refine wpList_append_own _ rfl _ _ 52 rfl w3.heap.size 3 i0 (.int .i64 0) 1 8 Tryz.underlying52 hi iz0 iz1 iz2 rfl (by decide) _ _ _ rfl ((ownsRow_base HO6.out (by simp)).alloc _) ⟨w6.heap.size, 0, none⟩ 2 2 [.int .i64 (max 0 (t - 1)), .int .i64 (min t 1099511627776)] rfl rfl (World.news_of_block (cs := #[.int .i64 (max 0 (t - 1)), .int .i64 (min t 1099511627776)]) (t := 3) (fr := (0, 0)) (heap_alloc_new w6 _)) (by simp [Value.oneCell']) (by unfold maxLen; omega) (by omega) (by have := HBT.out.size; simp; omega) ?_)
    intro v7 w7 ho7 hg7 _
    obtain ⟨us, hus⟩ : ∃ us : List Int, ts ++ [max 0 (t - 1), min t 1099511627776] = us := ⟨_, rfl⟩
    have hum : ∀ x ∈ us, 0 ≤ x ∧ x ≤ 1099511627776 := by
      intro x hx
      rw [← hus] at hx
      rcases List.mem_append.1 hx with hx | hx
      · exact HT.out x hx
      · simp at hx; omega
    have hul : us.length = ts.length + 2 := by rw [← hus]; simp
    have ho8 : w7.ownsRow w3.heap.size 3 1 v7 us.length (ints us) := by
      rw [hul, ← hus]; simpa [ints] using ho7
    obtain ⟨a7, c7, rfl, hc7, hc72⟩ := (SlR.of_own ho8).shape
    have hb7 : Below w3.heap.size w6 w7 := ((Below.refl w3.heap.size w6).alloc HBT.out.size _).grown hg7 (by have := HBT.out.size; simp; omega) (fun q hq => ((ownsRow_base HO6.out (Nat.le_of_lt (by simp)) : w6.ownsRow w3.heap.size 3 1 _ _ _).lt q hq).1)
    have HST := Lib.hid (SlR.of_own ho8)
    have HT7 := Lib.hid hum
    have HR7 := Lib.hid (HR6.out.below hb7 (by omega))
    have HQ7 := Lib.hid (HQ6.out.below hb7 (by omega))
    have HX7 := Lib.hid (HX6.out.below hb7 hl3)
    have HB27 := Lib.hid (HB26.out.trans (hb7.mono (by omega)))
    have HB7 := Lib.hid (HB6.out.trans (hb7.mono (by have := HB1.out.size; omega)))
    have hl7 : w2.heap.size < w7.heap.size := Nat.lt_of_lt_of_le hl6 hb7.size
    have hul2 : us.length ≤ 50000 := by omega
    clear hus hul hum ho7 ho8 hg7 hb7 HT HO6
    go_wp2_with fail
    go_loopw [60] (fun i wr => ∃ (j : Nat), j ≤ us.length ∧ i = .int .i64 j ∧ Below w7.heap.size w7 wr)
      (fun i _ => us.length - (intOf i).toNat)
    case atStart => exact ⟨0, Nat.zero_le _, rfl, Below.refl _ _⟩
    case round =>
      obtain ⟨j, hj, rfl, hb⟩ := hrel
      have HZr := Lib.hid hb
      have HRr := Lib.hid (HR7.out.below hb (by omega))
      have HQr := Lib.hid (HQ7.out.below hb (by omega))
      have HXr := Lib.hid (HX7.out.below hb hl7)
      have HWr := Lib.hid (ext_trans HB7.out hb)
      have HYr := Lib.hid (ext_trans HB27.out hb)
      have hw := nat_wrap j (by omega)
      have hlrr : w2.heap.size < wr.heap.size := Nat.lt_of_lt_of_le hl7 hb.size
      clear hb
      have p0 := HRr.out.cell (j := 0) rfl
      have p1 := HRr.out.cell (j := 1) rfl
      have p2 := HRr.out.cell (j := 2) rfl
      have b0 := HQr.out.cell (j := 0) rfl
      have b1 := HQr.out.cell (j := 1) rfl
      have b2 := HQr.out.cell (j := 2) rfl
      have q0 := HXr.out.cell (j := 0) rfl
      have q1 := HXr.out.cell (j := 1) rfl
      have q2 := HXr.out.cell (j := 2) rfl
      by_cases hlt : j < us.length
      · obtain ⟨b6, o6, rfl, d0⟩ := (HST.out.below HZr.out).int hlt
        obtain ⟨hu0, hu1⟩ := HT7.out us[j] (List.getElem_mem hlt)
        generalize us[j] = u at d0 hu0 hu1
        by_cases hge : t ≤ u
        · obtain ⟨x, hx⟩ : ∃ x, val (vi k2 n2) m u = x := ⟨_, rfl⟩
          have HAs := Lib.hid (fun W hW hS => sig_At_ok k2 n2 (.slice a2 m.length cap2) m u x W hW hS HSVB.out hu0 hu1 hx)
          have HAm := Lib.hid (fun W hW hS => sig_At_ok k2 n2 (.slice az s.length cz) s u x W hW hS HSS.out hu0 hu1 (by rw [HVAL.out u hu0 hu1, if_neg (by omega), hx]))
          have HHT : Hid (k2 = 3 → hasT s u = hasT m u) := Lib.hid (fun h3 => by rw [HHAS.out h3 u, if_neg (by omega)])
          clear hx
          have hbx : Below wr.heap.size wr (wr.alloc (.cells #[.int .i64 k2, .int .i64 n2, .slice a2 m.length cap2] 24)) := (Below.refl _ _).alloc (Nat.le_refl _) _
          have HA1 := Lib.hid (HAs.out _ (HG.out.below (ext_trans HWr.out hbx)) (HSB.out.below (ext_trans HWr.out hbx)))
          have kb0 := cell_alloc b0 (.cells #[.int .i64 k2, .int .i64 n2, .slice a l.length cap] 24)
          have kb1 := cell_alloc b1 (.cells #[.int .i64 k2, .int .i64 n2, .slice a l.length cap] 24)
          have kb2 := cell_alloc b2 (.cells #[.int .i64 k2, .int .i64 n2, .slice a l.length cap] 24)
          clear hbx
          go_wp2_with fail
          refine HA1.out.mono ?_
          rintro e w8 ⟨rfl, hb8⟩
          obtain ⟨f0, f1, f2⟩ := box3 hb8
          have hb := ext_alloc hb8
          clear kb0 kb1 kb2
          have hfl : wr.heap.size < w8.heap.size := cell_lt f0
          clear hb8
          have HR8 := Lib.hid (HRr.out.below hb (by omega))
          have HQ8 := Lib.hid (HQr.out.below hb (by omega))
          have HX8 := Lib.hid (HXr.out.below hb (by omega))
          have HW8 := Lib.hid (ext_trans HWr.out hb)
          have HY8 := Lib.hid (ext_trans HYr.out hb)
          have HZ8 := Lib.hid (ext_trans HZr.out hb)
          have hlr8 := Nat.lt_of_lt_of_le hlrr hb.size
          clear hb p0 p1 p2 q0 q1 q2 b0 b1 b2
          have p0 := HR8.out.cell (j := 0) rfl
          have p1 := HR8.out.cell (j := 1) rfl
          have p2 := HR8.out.cell (j := 2) rfl
          have b0 := HQ8.out.cell (j := 0) rfl
          have b1 := HQ8.out.cell (j := 1) rfl
          have b2 := HQ8.out.cell (j := 2) rfl
          have q0 := HX8.out.cell (j := 0) rfl
          have q1 := HX8.out.cell (j := 1) rfl
          have q2 := HX8.out.cell (j := 2) rfl
          go_wp2_with fail
          refine (HAm.out _ (HG.out.below HW8.out) (HS2.out.below HY8.out)).mono ?_
          rintro e w9 ⟨rfl, hb⟩
          have g0 := (hb.cell (p := ⟨wr.heap.size, 0, none⟩) hfl).trans f0
          have g1 := (hb.cell (p := ⟨wr.heap.size, 1, none⟩) hfl).trans f1
          have g2 := (hb.cell (p := ⟨wr.heap.size, 2, none⟩) hfl).trans f2
          clear f0 f1 f2
          have HR9 := Lib.hid (HR8.out.below hb (by omega))
          have HQ9 := Lib.hid (HQ8.out.below hb (by omega))
          have HX9 := Lib.hid (HX8.out.below hb (by omega))
          have HW9 := Lib.hid (ext_trans HW8.out hb)
          have HY9 := Lib.hid (ext_trans HY8.out hb)
          have HZ9 := Lib.hid (ext_trans HZ8.out hb)
          have hlr9 := Nat.lt_of_lt_of_le hlr8 hb.size
          clear hb p0 p1 p2 q0 q1 q2 b0 b1 b2
          have p0 := HR9.out.cell (j := 0) rfl
          have p1 := HR9.out.cell (j := 1) rfl
          have p2 := HR9.out.cell (j := 2) rfl
          have b0 := HQ9.out.cell (j := 0) rfl
          have b1 := HQ9.out.cell (j := 1) rfl
          have b2 := HQ9.out.cell (j := 2) rfl
          have q0 := HX9.out.cell (j := 0) rfl
          have q1 := HX9.out.cell (j := 1) rfl
          have q2 := HX9.out.cell (j := 2) rfl
          by_cases hk3 : k2 = 3
          · have hkb : (k2 == 3) = true := by rw [beq_iff_eq]; exact hk3
            have HH := Lib.hid (HHT.out hk3)
            obtain ⟨r1, hr1⟩ : ∃ r1, winR k2 n2 s u u = r1 := ⟨_, rfl⟩
            obtain ⟨r2, hr2⟩ : ∃ r2, winR k2 n2 m u u = r2 := ⟨_, rfl⟩
            have hrr : ((r1.length : Int) != (r2.length : Int)) = false := by
              have e1 := winR_one HSS.out hu1
              have e2 := winR_one HSVB.out hu1
              rw [hr1, HH.out] at e1
              rw [hr2] at e2
              rw [bne_eq_false_iff_eq, e1, e2]
            have HW1 := Lib.hid (fun W hW hS => hr1 ▸ sig_Window k2 n2 (.slice az s.length cz) s u u W hW hS HFS.out (by omega) (by omega))
            have HW2 := Lib.hid (fun W hW hS => hr2 ▸ sig_Window k2 n2 (.slice a2 m.length cap2) m u u W hW hS HFB.out (by omega) (by omega))
            clear hk3 hr1 hr2
            go_upto_region 18 with fail
            go_region_held3 (fun w' => w'.cell? ⟨w2.heap.size, 0, none⟩ = some (.int .i64 k2) ∧ w'.cell? ⟨w2.heap.size, 1, none⟩ = some (.int .i64 n2) ∧ w'.cell? ⟨w2.heap.size, 2, none⟩ = some (.slice az s.length cz) ∧ w'.cell? ⟨wr.heap.size, 0, none⟩ = some (.int .i64 k2) ∧ w'.cell? ⟨wr.heap.size, 1, none⟩ = some (.int .i64 n2) ∧ w'.cell? ⟨wr.heap.size, 2, none⟩ = some (.slice a2 m.length cap2))
              (first | exact ⟨y0, y1, y2, y3, y4, y5⟩ | exact ⟨x0, x1, x2, x3, x4, x5⟩ | go_keep)
              (first
                | (go_at_call 27; (with_reducible refine (HW1.out w9.drew ?_ ?_).mono ?_); (exact HG.out.below HW9.out.drew); (exact HS2.out.below HY9.out.drew); rintro e w10 ⟨v10, rfl, ho10, hb10⟩; obtain ⟨a10, c10, rfl, -, -⟩ := ho10.shape; have hb10' := below_undrew hb10; have x0 := (hb10'.cell (p := ⟨w2.heap.size, 0, none⟩) (cell_lt q0)).trans q0; have x1 := (hb10'.cell (p := ⟨w2.heap.size, 1, none⟩) (cell_lt q0)).trans q1; have x2 := (hb10'.cell (p := ⟨w2.heap.size, 2, none⟩) (cell_lt q0)).trans q2; have x3 := (hb10'.cell (p := ⟨wr.heap.size, 0, none⟩) (cell_lt g0)).trans g0; have x4 := (hb10'.cell (p := ⟨wr.heap.size, 1, none⟩) (cell_lt g0)).trans g1; have x5 := (hb10'.cell (p := ⟨wr.heap.size, 2, none⟩) (cell_lt g0)).trans g2; have HZ10 := Lib.hid (ext_trans HZ9.out hb10'); have HW10 := Lib.hid (ext_trans HW9.out hb10'); clear ho10 hb10 hb10')
                | (go_at_call 27; (with_reducible refine (HW2.out _ ?_ ?_).mono ?_); (exact HG.out.below HW10.out); (exact HSB.out.below HW10.out); rintro e w11 ⟨v11, rfl, ho11, hb11⟩; obtain ⟨a11, c11, rfl, -, -⟩ := ho11.shape; have y0 := (hb11.cell (p := ⟨w2.heap.size, 0, none⟩) (cell_lt x0)).trans x0; have y1 := (hb11.cell (p := ⟨w2.heap.size, 1, none⟩) (cell_lt x0)).trans x1; have y2 := (hb11.cell (p := ⟨w2.heap.size, 2, none⟩) (cell_lt x0)).trans x2; have y3 := (hb11.cell (p := ⟨wr.heap.size, 0, none⟩) (cell_lt x3)).trans x3; have y4 := (hb11.cell (p := ⟨wr.heap.size, 1, none⟩) (cell_lt x3)).trans x4; have y5 := (hb11.cell (p := ⟨wr.heap.size, 2, none⟩) (cell_lt x3)).trans x5; have HZ11 := Lib.hid (ext_trans HZ10.out hb11); clear ho11 hb11))
            go_wp2_with fail
            go_roundw
            case rel => exact ⟨j + 1, by omega, by go_num, HZ11.out⟩
            case measure => simp [intOf]; omega
          · have hkb : (k2 == 3) = false := by rw [beq_eq_false_iff_ne]; exact hk3
            clear hk3
            go_wp2_with fail
            go_quiet (fail)
            go_wp2_with fail
            go_roundw
            case rel => exact ⟨j + 1, by omega, by go_num, below_drewN HZ9.out _⟩
            case measure => simp [intOf]; omega
        · obtain ⟨x, hx⟩ : ∃ x, val (vi k2 n2) l u = x := ⟨_, rfl⟩
          have hlt' : u < t := by omega
          have HAs := Lib.hid (fun W hW hS => sig_At_ok k2 n2 (.slice a l.length cap) l u x W hW hS HSV.out hu0 hu1 hx)
          have HAm := Lib.hid (fun W hW hS => sig_At_ok k2 n2 (.slice az s.length cz) s u x W hW hS HSS.out hu0 hu1 (by rw [HVAL.out u hu0 hu1, if_pos (by omega), hx]))
          have HHT : Hid (k2 = 3 → hasT s u = hasT l u) := Lib.hid (fun h3 => by rw [HHAS.out h3 u, if_pos (by omega)])
          clear hx hge
          have hbx : Below wr.heap.size wr (wr.alloc (.cells #[.int .i64 k2, .int .i64 n2, .slice a l.length cap] 24)) := (Below.refl _ _).alloc (Nat.le_refl _) _
          have HA1 := Lib.hid (HAs.out _ (HG.out.below (ext_trans HWr.out hbx)) (HS.out.below (ext_trans HWr.out hbx)))
          have kb0 := cell_alloc b0 (.cells #[.int .i64 k2, .int .i64 n2, .slice a l.length cap] 24)
          have kb1 := cell_alloc b1 (.cells #[.int .i64 k2, .int .i64 n2, .slice a l.length cap] 24)
          have kb2 := cell_alloc b2 (.cells #[.int .i64 k2, .int .i64 n2, .slice a l.length cap] 24)
          clear hbx
          go_wp2_with fail
          refine HA1.out.mono ?_
          rintro e w8 ⟨rfl, hb8⟩
          obtain ⟨f0, f1, f2⟩ := box3 hb8
          have hb := ext_alloc hb8
          clear kb0 kb1 kb2
          have hfl : wr.heap.size < w8.heap.size := cell_lt f0
          clear hb8
          have HR8 := Lib.hid (HRr.out.below hb (by omega))
          have HQ8 := Lib.hid (HQr.out.below hb (by omega))
          have HX8 := Lib.hid (HXr.out.below hb (by omega))
          have HW8 := Lib.hid (ext_trans HWr.out hb)
          have HY8 := Lib.hid (ext_trans HYr.out hb)
          have HZ8 := Lib.hid (ext_trans HZr.out hb)
          have hlr8 := Nat.lt_of_lt_of_le hlrr hb.size
          clear hb p0 p1 p2 q0 q1 q2 b0 b1 b2
          have p0 := HR8.out.cell (j := 0) rfl
          have p1 := HR8.out.cell (j := 1) rfl
          have p2 := HR8.out.cell (j := 2) rfl
          have b0 := HQ8.out.cell (j := 0) rfl
          have b1 := HQ8.out.cell (j := 1) rfl
          have b2 := HQ8.out.cell (j := 2) rfl
          have q0 := HX8.out.cell (j := 0) rfl
          have q1 := HX8.out.cell (j := 1) rfl
          have q2 := HX8.out.cell (j := 2) rfl
          go_wp2_with fail
          refine (HAm.out _ (HG.out.below HW8.out) (HS2.out.below HY8.out)).mono ?_
          rintro e w9 ⟨rfl, hb⟩
          have g0 := (hb.cell (p := ⟨wr.heap.size, 0, none⟩) hfl).trans f0
          have g1 := (hb.cell (p := ⟨wr.heap.size, 1, none⟩) hfl).trans f1
          have g2 := (hb.cell (p := ⟨wr.heap.size, 2, none⟩) hfl).trans f2
          clear f0 f1 f2
          have HR9 := Lib.hid (HR8.out.below hb (by omega))
          have HQ9 := Lib.hid (HQ8.out.below hb (by omega))
          have HX9 := Lib.hid (HX8.out.below hb (by omega))
          have HW9 := Lib.hid (ext_trans HW8.out hb)
          have HY9 := Lib.hid (ext_trans HY8.out hb)
          have HZ9 := Lib.hid (ext_trans HZ8.out hb)
          have hlr9 := Nat.lt_of_lt_of_le hlr8 hb.size
          clear hb p0 p1 p2 q0 q1 q2 b0 b1 b2
          have p0 := HR9.out.cell (j := 0) rfl
          have p1 := HR9.out.cell (j := 1) rfl
          have p2 := HR9.out.cell (j := 2) rfl
          have b0 := HQ9.out.cell (j := 0) rfl
          have b1 := HQ9.out.cell (j := 1) rfl
          have b2 := HQ9.out.cell (j := 2) rfl
          have q0 := HX9.out.cell (j := 0) rfl
          have q1 := HX9.out.cell (j := 1) rfl
          have q2 := HX9.out.cell (j := 2) rfl
          by_cases hk3 : k2 = 3
          · have hkb : (k2 == 3) = true := by rw [beq_iff_eq]; exact hk3
            have HH := Lib.hid (HHT.out hk3)
            obtain ⟨r1, hr1⟩ : ∃ r1, winR k2 n2 s u u = r1 := ⟨_, rfl⟩
            obtain ⟨r2, hr2⟩ : ∃ r2, winR k2 n2 l u u = r2 := ⟨_, rfl⟩
            have hrr : ((r1.length : Int) != (r2.length : Int)) = false := by
              have e1 := winR_one HSS.out hu1
              have e2 := winR_one HSV.out hu1
              rw [hr1, HH.out] at e1
              rw [hr2] at e2
              rw [bne_eq_false_iff_eq, e1, e2]
            have HW1 := Lib.hid (fun W hW hS => hr1 ▸ sig_Window k2 n2 (.slice az s.length cz) s u u W hW hS HFS.out (by omega) (by omega))
            have HW2 := Lib.hid (fun W hW hS => hr2 ▸ sig_Window k2 n2 (.slice a l.length cap) l u u W hW hS HF.out (by omega) (by omega))
            clear hk3 hr1 hr2
            go_upto_region 18 with fail
            go_region_held3 (fun w' => w'.cell? ⟨w2.heap.size, 0, none⟩ = some (.int .i64 k2) ∧ w'.cell? ⟨w2.heap.size, 1, none⟩ = some (.int .i64 n2) ∧ w'.cell? ⟨w2.heap.size, 2, none⟩ = some (.slice az s.length cz) ∧ w'.cell? ⟨wr.heap.size, 0, none⟩ = some (.int .i64 k2) ∧ w'.cell? ⟨wr.heap.size, 1, none⟩ = some (.int .i64 n2) ∧ w'.cell? ⟨wr.heap.size, 2, none⟩ = some (.slice a l.length cap))
              (first | exact ⟨y0, y1, y2, y3, y4, y5⟩ | exact ⟨x0, x1, x2, x3, x4, x5⟩ | go_keep)
              (first
                | (go_at_call 27; (with_reducible refine (HW1.out w9.drew ?_ ?_).mono ?_); (exact HG.out.below HW9.out.drew); (exact HS2.out.below HY9.out.drew); rintro e w10 ⟨v10, rfl, ho10, hb10⟩; obtain ⟨a10, c10, rfl, -, -⟩ := ho10.shape; have hb10' := below_undrew hb10; have x0 := (hb10'.cell (p := ⟨w2.heap.size, 0, none⟩) (cell_lt q0)).trans q0; have x1 := (hb10'.cell (p := ⟨w2.heap.size, 1, none⟩) (cell_lt q0)).trans q1; have x2 := (hb10'.cell (p := ⟨w2.heap.size, 2, none⟩) (cell_lt q0)).trans q2; have x3 := (hb10'.cell (p := ⟨wr.heap.size, 0, none⟩) (cell_lt g0)).trans g0; have x4 := (hb10'.cell (p := ⟨wr.heap.size, 1, none⟩) (cell_lt g0)).trans g1; have x5 := (hb10'.cell (p := ⟨wr.heap.size, 2, none⟩) (cell_lt g0)).trans g2; have HZ10 := Lib.hid (ext_trans HZ9.out hb10'); have HW10 := Lib.hid (ext_trans HW9.out hb10'); clear ho10 hb10 hb10')
                | (go_at_call 27; (with_reducible refine (HW2.out _ ?_ ?_).mono ?_); (exact HG.out.below HW10.out); (exact HS.out.below HW10.out); rintro e w11 ⟨v11, rfl, ho11, hb11⟩; obtain ⟨a11, c11, rfl, -, -⟩ := ho11.shape; have y0 := (hb11.cell (p := ⟨w2.heap.size, 0, none⟩) (cell_lt x0)).trans x0; have y1 := (hb11.cell (p := ⟨w2.heap.size, 1, none⟩) (cell_lt x0)).trans x1; have y2 := (hb11.cell (p := ⟨w2.heap.size, 2, none⟩) (cell_lt x0)).trans x2; have y3 := (hb11.cell (p := ⟨wr.heap.size, 0, none⟩) (cell_lt x3)).trans x3; have y4 := (hb11.cell (p := ⟨wr.heap.size, 1, none⟩) (cell_lt x3)).trans x4; have y5 := (hb11.cell (p := ⟨wr.heap.size, 2, none⟩) (cell_lt x3)).trans x5; have HZ11 := Lib.hid (ext_trans HZ10.out hb11); clear ho11 hb11))
            go_wp2_with fail
            go_roundw
            case rel => exact ⟨j + 1, by omega, by go_num, HZ11.out⟩
            case measure => simp [intOf]; omega
          · have hkb : (k2 == 3) = false := by rw [beq_eq_false_iff_ne]; exact hk3
            clear hk3
            go_wp2_with fail
            go_quiet (fail)
            go_wp2_with fail
            go_roundw
            case rel => exact ⟨j + 1, by omega, by go_num, below_drewN HZ9.out _⟩
            case measure => simp [intOf]; omega
      · obtain rfl : j = us.length := by omega
        have HSB2 := Lib.hid (sig_Splice k2 n2 k2 n2 _ _ l l t wr (HG.out.below HWr.out) (HS.out.below HWr.out) HF.out (HS.out.below HWr.out) HF.out)
        rw [HBACK.out] at HSB2
        go_wp2_with fail
        refine HSB2.out.mono ?_
        rintro e w8 ⟨v8, rfl, ho8, hb⟩
        have hs8 := SlR.of_own ho8
        dsimp only at hs8
        obtain ⟨a8, c8, rfl, -, -⟩ := hs8.shape
        have HS8 := Lib.hid hs8
        clear ho8 hs8
        have HR8 := Lib.hid (HRr.out.below hb (by omega))
        have HQ8 := Lib.hid (HQr.out.below hb (by omega))
        have HX8 := Lib.hid (HXr.out.below hb (by omega))
        have HW8 := Lib.hid (ext_trans HWr.out hb)
        have HY8 := Lib.hid (ext_trans HYr.out hb)
        have HZ8 := Lib.hid (ext_trans HZr.out hb)
        have hlr8 := Nat.lt_of_lt_of_le hlrr hb.size
        clear hb p0 p1 p2 q0 q1 q2 b0 b1 b2
        have p0 := HR8.out.cell (j := 0) rfl
        have p1 := HR8.out.cell (j := 1) rfl
        have p2 := HR8.out.cell (j := 2) rfl
        have b0 := HQ8.out.cell (j := 0) rfl
        have b1 := HQ8.out.cell (j := 1) rfl
        have b2 := HQ8.out.cell (j := 2) rfl
        have q0 := HX8.out.cell (j := 0) rfl
        have q1 := HX8.out.cell (j := 1) rfl
        have q2 := HX8.out.cell (j := 2) rfl
        have f0 := cell_alloc p0 (.cells #[.int .i64 k2, .int .i64 n2, .slice a8 l.length c8] 24)
        have f1 := cell_alloc p1 (.cells #[.int .i64 k2, .int .i64 n2, .slice a8 l.length c8] 24)
        have f2 := cell_alloc p2 (.cells #[.int .i64 k2, .int .i64 n2, .slice a8 l.length c8] 24)
        have hbx : Below w8.heap.size w8 (w8.alloc (.cells #[.int .i64 k2, .int .i64 n2, .slice a8 l.length c8] 24)) := (Below.refl _ _).alloc (Nat.le_refl _) _
        have HEQ := Lib.hid (sig_Equal k2 n2 k2 n2 _ _ l l _ (HS8.out.below hbx) (HS.out.below (ext_trans HW8.out hbx)))
        rw [show sEq k2 n2 l k2 n2 l = true by simp [sEq, sameC]] at HEQ
        have HBX8 := Lib.hid (ext_trans HW8.out hbx)
        clear hbx
        go_wp2_with fail
        refine HEQ.out.mono ?_
        rintro e w9 ⟨rfl, hb⟩
        have HW9 := Lib.hid (HBX8.out.trans (hb.mono HBX8.out.size))
        clear hb
        go_wp2_with fail
        go_ret
        exact ⟨rfl, HW9.out⟩
end Go.Proofs.YtlbcfmhpkcpmaaaGreatDoor
