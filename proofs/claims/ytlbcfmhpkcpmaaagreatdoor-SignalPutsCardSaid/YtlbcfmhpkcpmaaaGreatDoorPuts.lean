import Derived.Test.YtlbcfmhpkcpmaaaGreatDoorShifts
import Derived.Test.YtlbcfmhpkcpmaaaGreatDoorPl3
namespace Go.Proofs.YtlbcfmhpkcpmaaaGreatDoor
open Go.RowKit

set_option maxHeartbeats 3200000 in
set_option maxRecDepth 100000 in
theorem law_SignalPuts (k n from_ to_ : Int) (s : ByteArray) (v : Value) (l : List Ch) (w : World) (hg : Glob w) (hs : SlR w v l.length (chs l)) :
    Calls Tryz.prog 8 #[.agg #[.int .i64 k, .int .i64 n, v], .int .i64 from_, .int .i64 to_, .string s] w fun e w' => e = .returned (.bool true) ∧ Below w.heap.size w w' := by
  obtain ⟨a, cap, rfl, hc, hm⟩ := hs.shape
  unfold maxLen at hm
  have HS := Lib.hid hs
  have HG := Lib.hid hg
  have hbw : Below w.heap.size w (w.alloc (.cells #[.int .i64 k, .int .i64 n, .slice a l.length cap] 24)) := (Below.refl _ _).alloc (Nat.le_refl _) _
  have HR0 := Lib.hid (OwnRow.fresh w #[.int .i64 k, .int .i64 n, .slice a l.length cap] 24)
  have HAW := Lib.hid (law_awake _ (HG.out.below hbw))
  have HBW := Lib.hid hbw
  clear hs hg hbw
  go_enter Tryz.func8, Tryz.ntmps8
  go_wp2_with fail
  refine HAW.out.mono ?_
  rintro e w1 ⟨rfl, hb1⟩
  have HR1 := Lib.hid (HR0.out.below hb1 (by simp))
  have HB1 := Lib.hid (HBW.out.trans (hb1.mono HBW.out.size))
  have hl1 : w.heap.size < w1.heap.size := by have := hb1.size; simp at this; omega
  clear hb1 HR0 HAW
  have p0 := HR1.out.cell (j := 0) rfl
  have p1 := HR1.out.cell (j := 1) rfl
  have p2 := HR1.out.cell (j := 2) rfl
  go_wp2_with fail
  refine (ref_Few _ l 40 w1 (HS.out.below HB1.out)).mono ?_
  rintro e w1' ⟨rfl, rfl⟩
  cases hfew : few l 40
  · go_wp2_with fail
    go_ret
    exact ⟨rfl, HB1.out⟩
  obtain ⟨hfit, hl40⟩ := few_fit hfew
  have HF := Lib.hid hfit
  clear hfew hfit
  by_cases hs200 : 200 < s.size
  · go_wp2_with fail
    go_ret
    exact ⟨rfl, HB1.out⟩
  have hs200' : s.size ≤ 200 := by omega
  have HSH := Lib.hid (sig_Put k n _ l from_ to_ s w1' (HG.out.below HB1.out) (HS.out.below HB1.out) HF.out (by omega))
  clear hs200
  go_wp2_with fail
  rcases put_cases (k := k) (n := n) (l := l) (from_ := from_) (to_ := to_) (v := s) with ⟨er, her, hR⟩ | ⟨hsv, hk3, hf0, hft, hto, hvs⟩
  · rw [hR] at HSH
    have heb : (er != 0) = true := by rw [bne_iff_ne]; exact her
    clear hR her
    refine HSH.out.mono ?_
    rintro e w2 ⟨v2, rfl, ho2, hb2⟩
    obtain ⟨a2, c2, rfl, -, -⟩ := (SlR.of_own ho2).shape
    have HB2 := Lib.hid (ext_trans HB1.out hb2)
    clear ho2 hb2
    go_wp2_with fail
    go_ret
    exact ⟨rfl, HB2.out.alloc HB2.out.size _⟩
  · obtain ⟨m, hR, hsm, hml, hval⟩ := put_ok hsv (by omega) hk3 hf0 hft hto hvs
    have HBACK : Hid ((winR k n l (from_ + 1) (to_ - 1)).length = 0 → putR k n m from_ to_ (val (vi k n) l from_) = ((k, n, l), 0)) := Lib.hid (fun hw => put_back hsv (by omega) hk3 hf0 hft hto hvs hR hsm (by omega) hw)
    have HVS := Lib.hid hvs
    rw [hR] at HSH
    have HSV := Lib.hid hsv
    have HSM := Lib.hid hsm
    have HVAL := Lib.hid hval
    have HFM := Lib.hid (sv_fit hsm)
    have hml2 : m.length ≤ 82 := by omega
    clear hR hsv hsm hval hml hk3 hvs
    refine HSH.out.mono ?_
    rintro e w2 ⟨v2, rfl, ho2, hb2⟩
    have hs2 := SlR.of_own ho2
    dsimp only at hs2
    obtain ⟨a2, c2, rfl, -, -⟩ := hs2.shape
    have HS2 := Lib.hid hs2
    have HB2 := Lib.hid (ext_trans HB1.out hb2)
    have HR2 := Lib.hid ((HR1.out.below hb2 hl1).alloc (Nat.lt_of_lt_of_le hl1 hb2.size) (.cells #[.int .i64 k, .int .i64 n, .slice a2 m.length c2] 24))
    have hl2 : w.heap.size < w2.heap.size := Nat.lt_of_lt_of_le hl1 hb2.size
    have hbx : Below w2.heap.size w2 (w2.alloc (.cells #[.int .i64 k, .int .i64 n, .slice a2 m.length c2] 24)) := (Below.refl _ _).alloc (Nat.le_refl _) _
    have HX2 := Lib.hid (OwnRow.fresh w2 #[.int .i64 k, .int .i64 n, .slice a2 m.length c2] 24)
    have HV := Lib.hid (sig_Valid k n _ m _ (HG.out.below (ext_trans HB2.out hbx)) (HS2.out.below hbx) HFM.out)
    rw [HSM.out] at HV
    have HBX := Lib.hid hbx
    clear ho2 hb2 hs2 HSH p0 p1 p2 hbx
    have p0 := HR2.out.cell (j := 0) rfl
    have p1 := HR2.out.cell (j := 1) rfl
    have p2 := HR2.out.cell (j := 2) rfl
    go_wp2_with fail
    refine HV.out.mono ?_
    rintro e w3 ⟨rfl, hb3⟩
    have HR3 := Lib.hid (HR2.out.below hb3 (by simp; omega))
    have HX3 := Lib.hid (HX2.out.below hb3 (by simp))
    have HB23 := Lib.hid (HBX.out.trans (hb3.mono HBX.out.size))
    clear hb3 p0 p1 p2 HR2 HX2 HV
    have p0 := HR3.out.cell (j := 0) rfl
    have p1 := HR3.out.cell (j := 1) rfl
    have p2 := HR3.out.cell (j := 2) rfl
    have q0 := HX3.out.cell (j := 0) rfl
    have q1 := HX3.out.cell (j := 1) rfl
    have q2 := HX3.out.cell (j := 2) rfl
    go_wp2_with fail
    obtain ⟨hls, hlists⟩ := lists_two (W := w3) (HS.out.below (ext_trans HB2.out HB23.out)) (by omega) (sv_lists HSV.out) (HS2.out.below HB23.out) (by omega) (sv_lists HSM.out) 22 (Below.refl _ w3)
    refine (law_times _ [(.slice a l.length cap, l), (.slice a2 m.length c2, m)] _ hls hlists (by simp)).mono ?_
    rintro e w6 ⟨ts, at6, ct6, rfl, htl, htm, ho6, hb6⟩
    have hb6' := ext_alloc hb6
    have HB26 := Lib.hid (ext_trans HB23.out hb6')
    have hl3 : w2.heap.size < w3.heap.size := cell_lt q0
    have HR6 := Lib.hid (HR3.out.below hb6' (by omega))
    have HX6 := Lib.hid (HX3.out.below hb6' hl3)
    have HB6 := Lib.hid (ext_trans HB2.out HB26.out)
    have HT := Lib.hid htm
    have HO6 := Lib.hid ho6
    have hl6 : w2.heap.size < w6.heap.size := Nat.lt_of_lt_of_le hl3 hb6'.size
    have HBT := Lib.hid hb6'
    clear hls hlists htm ho6 hb6 hb6' p0 p1 p2 q0 q1 q2 HR3 HX3
    have hw1 : IntKind.i64.wrap (to_ - 1) = to_ - 1 := IntWalk.i64_in _ (by omega)
    obtain ⟨i0, hi, iz0, iz1, iz2⟩ := info_parts (P := Tryz.prog) int_info
    have hsz6 := HB6.out.size
    go_wp2_with (at_builtin; refine wpList_append_own _ rfl _ _ 52 rfl w3.heap.size 3 i0 (.int .i64 0) 1 8 Tryz.underlying52 hi iz0 iz1 iz2 rfl (by decide) _ _ _ rfl ((ownsRow_base HO6.out (by simp)).alloc _) ⟨w6.heap.size, 0, none⟩ 3 3 [.int .i64 from_, .int .i64 (to_ - 1), .int .i64 (min to_ 1099511627776)] rfl rfl (World.news_of_block (cs := #[.int .i64 from_, .int .i64 (to_ - 1), .int .i64 (min to_ 1099511627776)]) (t := 3) (fr := (0, 0)) (heap_alloc_new w6 _)) (by simp [Value.oneCell']) (by unfold maxLen; omega) (by omega) (by have := HBT.out.size; simp; omega) ?_)
    intro v7 w7 ho7 hg7 _
    obtain ⟨us, hus⟩ : ∃ us : List Int, ts ++ [from_, to_ - 1, min to_ 1099511627776] = us := ⟨_, rfl⟩
    have hum : ∀ t ∈ us, 0 ≤ t ∧ t ≤ 1099511627776 := by
      intro t ht
      rw [← hus] at ht
      rcases List.mem_append.1 ht with ht | ht
      · exact HT.out t ht
      · simp at ht; omega
    have hul : us.length = ts.length + 3 := by rw [← hus]; simp
    have ho8 : w7.ownsRow w3.heap.size 3 1 v7 us.length (ints us) := by
      rw [hul, ← hus]; simpa [ints] using ho7
    obtain ⟨a7, c7, rfl, hc7, hc72⟩ := (SlR.of_own ho8).shape
    have hb7 : Below w3.heap.size w6 w7 := ((Below.refl w3.heap.size w6).alloc HBT.out.size _).grown hg7 (by have := HBT.out.size; simp; omega) (fun q hq => ((ownsRow_base HO6.out (Nat.le_of_lt (by simp)) : w6.ownsRow w3.heap.size 3 1 _ _ _).lt q hq).1)
    have HST := Lib.hid (SlR.of_own ho8)
    have HT7 := Lib.hid hum
    have HR7 := Lib.hid (HR6.out.below hb7 (by omega))
    have HX7 := Lib.hid (HX6.out.below hb7 hl3)
    have HB27 := Lib.hid (HB26.out.trans (hb7.mono (by omega)))
    have HB7 := Lib.hid (HB6.out.trans (hb7.mono (by have := HB1.out.size; omega)))
    have hl7 : w2.heap.size < w7.heap.size := Nat.lt_of_lt_of_le hl6 hb7.size
    have hul2 : us.length ≤ 50000 := by omega
    clear hus hul hum ho7 ho8 hg7 hb7 HT HO6
    go_wp2_with fail
    go_loopw [63] (fun i wr => ∃ (j : Nat), j ≤ us.length ∧ i = .int .i64 j ∧ Below w7.heap.size w7 wr)
      (fun i _ => us.length - (intOf i).toNat)
    case atStart => exact ⟨0, Nat.zero_le _, rfl, Below.refl _ _⟩
    case round =>
      obtain ⟨j, hj, rfl, hb⟩ := hrel
      have HZr := Lib.hid hb
      have HRr := Lib.hid (HR7.out.below hb (by omega))
      have HXr := Lib.hid (HX7.out.below hb hl7)
      have HWr := Lib.hid (ext_trans HB7.out hb)
      have HYr := Lib.hid (ext_trans HB27.out hb)
      have hw := nat_wrap j (by omega)
      have hlrr : w2.heap.size < wr.heap.size := Nat.lt_of_lt_of_le hl7 hb.size
      clear hb
      have p0 := HRr.out.cell (j := 0) rfl
      have p1 := HRr.out.cell (j := 1) rfl
      have p2 := HRr.out.cell (j := 2) rfl
      have q0 := HXr.out.cell (j := 0) rfl
      have q1 := HXr.out.cell (j := 1) rfl
      have q2 := HXr.out.cell (j := 2) rfl
      by_cases hlt : j < us.length
      · obtain ⟨b6, o6, rfl, d0⟩ := (HST.out.below HZr.out).int hlt
        obtain ⟨ht0, ht1⟩ := HT7.out us[j] (List.getElem_mem hlt)
        generalize us[j] = t at d0 ht0 ht1
        obtain ⟨x, hx⟩ : ∃ x, val (vi k n) l t = x := ⟨_, rfl⟩
        have HAs := Lib.hid (fun W hW hS => sig_At_ok k n (.slice a l.length cap) l t x W hW hS HSV.out ht0 ht1 hx)
        by_cases hin : from_ ≤ t ∧ t < to_
        · have HAm := Lib.hid (fun W hW hS => sig_At_ok k n (.slice a2 m.length c2) m t s W hW hS HSM.out ht0 ht1 (by rw [HVAL.out t ht0 ht1, if_pos hin]))
          obtain ⟨hin1, hin2⟩ := hin
          clear hx
          go_wp2_with fail
          refine (HAs.out _ (HG.out.below HWr.out) (HS.out.below HWr.out)).mono ?_
          rintro e w8 ⟨rfl, hb⟩
          have HR8 := Lib.hid (HRr.out.below hb (by omega))
          have HX8 := Lib.hid (HXr.out.below hb (by omega))
          have HW8 := Lib.hid (ext_trans HWr.out hb)
          have HY8 := Lib.hid (ext_trans HYr.out hb)
          have HZ8 := Lib.hid (ext_trans HZr.out hb)
          have hlr8 := Nat.lt_of_lt_of_le hlrr hb.size
          clear hb p0 p1 p2 q0 q1 q2
          have p0 := HR8.out.cell (j := 0) rfl
          have p1 := HR8.out.cell (j := 1) rfl
          have p2 := HR8.out.cell (j := 2) rfl
          have q0 := HX8.out.cell (j := 0) rfl
          have q1 := HX8.out.cell (j := 1) rfl
          have q2 := HX8.out.cell (j := 2) rfl
          go_wp2_with fail
          refine (HAm.out _ (HG.out.below HW8.out) (HS2.out.below HY8.out)).mono ?_
          rintro e w9 ⟨rfl, hb⟩
          have HR9 := Lib.hid (HR8.out.below hb (by omega))
          have HX9 := Lib.hid (HX8.out.below hb (by omega))
          have HW9 := Lib.hid (ext_trans HW8.out hb)
          have HY9 := Lib.hid (ext_trans HY8.out hb)
          have HZ9 := Lib.hid (ext_trans HZ8.out hb)
          have hlr9 := Nat.lt_of_lt_of_le hlr8 hb.size
          clear hb p0 p1 p2 q0 q1 q2
          have p0 := HR9.out.cell (j := 0) rfl
          have p1 := HR9.out.cell (j := 1) rfl
          have p2 := HR9.out.cell (j := 2) rfl
          have q0 := HX9.out.cell (j := 0) rfl
          have q1 := HX9.out.cell (j := 1) rfl
          have q2 := HX9.out.cell (j := 2) rfl
          go_wp2_with fail
          go_roundw
          case rel => exact ⟨j + 1, by omega, by go_num, HZ9.out⟩
          case measure => simp [intOf]; omega
        · have HAm := Lib.hid (fun W hW hS => sig_At_ok k n (.slice a2 m.length c2) m t x W hW hS HSM.out ht0 ht1 (by rw [HVAL.out t ht0 ht1, if_neg hin, hx]))
          clear hx
          by_cases hlow : t < from_
          · clear hin
            go_wp2_with fail
            refine (HAs.out _ (HG.out.below HWr.out) (HS.out.below HWr.out)).mono ?_
            rintro e w8 ⟨rfl, hb⟩
            have HR8 := Lib.hid (HRr.out.below hb (by omega))
            have HX8 := Lib.hid (HXr.out.below hb (by omega))
            have HW8 := Lib.hid (ext_trans HWr.out hb)
            have HY8 := Lib.hid (ext_trans HYr.out hb)
            have HZ8 := Lib.hid (ext_trans HZr.out hb)
            have hlr8 := Nat.lt_of_lt_of_le hlrr hb.size
            clear hb p0 p1 p2 q0 q1 q2
            have p0 := HR8.out.cell (j := 0) rfl
            have p1 := HR8.out.cell (j := 1) rfl
            have p2 := HR8.out.cell (j := 2) rfl
            have q0 := HX8.out.cell (j := 0) rfl
            have q1 := HX8.out.cell (j := 1) rfl
            have q2 := HX8.out.cell (j := 2) rfl
            go_wp2_with fail
            refine (HAm.out _ (HG.out.below HW8.out) (HS2.out.below HY8.out)).mono ?_
            rintro e w9 ⟨rfl, hb⟩
            have HR9 := Lib.hid (HR8.out.below hb (by omega))
            have HX9 := Lib.hid (HX8.out.below hb (by omega))
            have HW9 := Lib.hid (ext_trans HW8.out hb)
            have HY9 := Lib.hid (ext_trans HY8.out hb)
            have HZ9 := Lib.hid (ext_trans HZ8.out hb)
            have hlr9 := Nat.lt_of_lt_of_le hlr8 hb.size
            clear hb p0 p1 p2 q0 q1 q2
            have p0 := HR9.out.cell (j := 0) rfl
            have p1 := HR9.out.cell (j := 1) rfl
            have p2 := HR9.out.cell (j := 2) rfl
            have q0 := HX9.out.cell (j := 0) rfl
            have q1 := HX9.out.cell (j := 1) rfl
            have q2 := HX9.out.cell (j := 2) rfl
            go_wp2_with fail
            go_roundw
            case rel => exact ⟨j + 1, by omega, by go_num, HZ9.out⟩
            case measure => simp [intOf]; omega
          · have hin1 : from_ ≤ t := by omega
            have hin2 : to_ ≤ t := by omega
            clear hin hlow
            go_wp2_with fail
            refine (HAs.out _ (HG.out.below HWr.out) (HS.out.below HWr.out)).mono ?_
            rintro e w8 ⟨rfl, hb⟩
            have HR8 := Lib.hid (HRr.out.below hb (by omega))
            have HX8 := Lib.hid (HXr.out.below hb (by omega))
            have HW8 := Lib.hid (ext_trans HWr.out hb)
            have HY8 := Lib.hid (ext_trans HYr.out hb)
            have HZ8 := Lib.hid (ext_trans HZr.out hb)
            have hlr8 := Nat.lt_of_lt_of_le hlrr hb.size
            clear hb p0 p1 p2 q0 q1 q2
            have p0 := HR8.out.cell (j := 0) rfl
            have p1 := HR8.out.cell (j := 1) rfl
            have p2 := HR8.out.cell (j := 2) rfl
            have q0 := HX8.out.cell (j := 0) rfl
            have q1 := HX8.out.cell (j := 1) rfl
            have q2 := HX8.out.cell (j := 2) rfl
            go_wp2_with fail
            refine (HAm.out _ (HG.out.below HW8.out) (HS2.out.below HY8.out)).mono ?_
            rintro e w9 ⟨rfl, hb⟩
            have HR9 := Lib.hid (HR8.out.below hb (by omega))
            have HX9 := Lib.hid (HX8.out.below hb (by omega))
            have HW9 := Lib.hid (ext_trans HW8.out hb)
            have HY9 := Lib.hid (ext_trans HY8.out hb)
            have HZ9 := Lib.hid (ext_trans HZ8.out hb)
            have hlr9 := Nat.lt_of_lt_of_le hlr8 hb.size
            clear hb p0 p1 p2 q0 q1 q2
            have p0 := HR9.out.cell (j := 0) rfl
            have p1 := HR9.out.cell (j := 1) rfl
            have p2 := HR9.out.cell (j := 2) rfl
            have q0 := HX9.out.cell (j := 0) rfl
            have q1 := HX9.out.cell (j := 1) rfl
            have q2 := HX9.out.cell (j := 2) rfl
            go_wp2_with fail
            go_roundw
            case rel => exact ⟨j + 1, by omega, by go_num, HZ9.out⟩
            case measure => simp [intOf]; omega
      · obtain rfl : j = us.length := by omega
        have hw2 : IntKind.i64.wrap (from_ + 1) = from_ + 1 := IntWalk.i64_in _ (by omega)
        have HWN := Lib.hid (sig_Window k n _ l (from_ + 1) (to_ - 1) wr (HG.out.below HWr.out) (HS.out.below HWr.out) HF.out (by omega) (by omega))
        obtain ⟨r, hr⟩ : ∃ r, winR k n l (from_ + 1) (to_ - 1) = r := ⟨_, rfl⟩
        rw [hr] at HWN HBACK
        clear hr
        go_wp2_with fail
        refine HWN.out.mono ?_
        rintro e w8 ⟨v8, rfl, ho8, hb⟩
        obtain ⟨a8, c8, rfl, -, -⟩ := ho8.shape
        clear ho8
        have HR8 := Lib.hid (HRr.out.below hb (by omega))
        have HX8 := Lib.hid (HXr.out.below hb (by omega))
        have HW8 := Lib.hid (ext_trans HWr.out hb)
        have HY8 := Lib.hid (ext_trans HYr.out hb)
        have HZ8 := Lib.hid (ext_trans HZr.out hb)
        have hlr8 := Nat.lt_of_lt_of_le hlrr hb.size
        clear hb p0 p1 p2 q0 q1 q2
        have p0 := HR8.out.cell (j := 0) rfl
        have p1 := HR8.out.cell (j := 1) rfl
        have p2 := HR8.out.cell (j := 2) rfl
        have q0 := HX8.out.cell (j := 0) rfl
        have q1 := HX8.out.cell (j := 1) rfl
        have q2 := HX8.out.cell (j := 2) rfl
        by_cases hrl : 0 < r.length
        · go_wp2_with fail
          go_ret
          exact ⟨rfl, HW8.out⟩
        · have HB0 := Lib.hid (HBACK.out (by omega))
          have hrl2 : r.length ≤ 0 := by omega
          obtain ⟨x, hx⟩ : ∃ x, val (vi k n) l from_ = x := ⟨_, rfl⟩
          have HAs := Lib.hid (fun W hW hS => sig_At_ok k n (.slice a l.length cap) l from_ x W hW hS HSV.out hf0 (by omega) hx)
          have hxs : x.size ≤ 1000 := by rw [← hx]; exact vv_size (val_vv HSV.out from_)
          rw [hx] at HB0
          clear hx hrl
          go_wp2_with fail
          refine (HAs.out _ (HG.out.below HW8.out) (HS.out.below HW8.out)).mono ?_
          rintro e w9 ⟨rfl, hb⟩
          have HR9 := Lib.hid (HR8.out.below hb (by omega))
          have HX9 := Lib.hid (HX8.out.below hb (by omega))
          have HW9 := Lib.hid (ext_trans HW8.out hb)
          have HY9 := Lib.hid (ext_trans HY8.out hb)
          have HZ9 := Lib.hid (ext_trans HZ8.out hb)
          have hlr9 := Nat.lt_of_lt_of_le hlr8 hb.size
          clear hb p0 p1 p2 q0 q1 q2
          have p0 := HR9.out.cell (j := 0) rfl
          have p1 := HR9.out.cell (j := 1) rfl
          have p2 := HR9.out.cell (j := 2) rfl
          have q0 := HX9.out.cell (j := 0) rfl
          have q1 := HX9.out.cell (j := 1) rfl
          have q2 := HX9.out.cell (j := 2) rfl
          have HPB := Lib.hid (sig_Put k n _ m from_ to_ x w9 (HG.out.below HW9.out) (HS2.out.below HY9.out) HFM.out (by omega))
          rw [HB0.out] at HPB
          go_wp2_with fail
          refine HPB.out.mono ?_
          rintro e w10 ⟨v10, rfl, ho10, hb⟩
          have hs10 := SlR.of_own ho10
          dsimp only at hs10
          obtain ⟨a10, c10, rfl, -, -⟩ := hs10.shape
          have HS10 := Lib.hid hs10
          clear ho10 hs10
          have HR10 := Lib.hid (HR9.out.below hb (by omega))
          have HX10 := Lib.hid (HX9.out.below hb (by omega))
          have HW10 := Lib.hid (ext_trans HW9.out hb)
          have HY10 := Lib.hid (ext_trans HY9.out hb)
          have HZ10 := Lib.hid (ext_trans HZ9.out hb)
          have hlr10 := Nat.lt_of_lt_of_le hlr9 hb.size
          clear hb p0 p1 p2 q0 q1 q2
          have p0 := HR10.out.cell (j := 0) rfl
          have p1 := HR10.out.cell (j := 1) rfl
          have p2 := HR10.out.cell (j := 2) rfl
          have q0 := HX10.out.cell (j := 0) rfl
          have q1 := HX10.out.cell (j := 1) rfl
          have q2 := HX10.out.cell (j := 2) rfl
          have f0 := cell_alloc p0 (.cells #[.int .i64 k, .int .i64 n, .slice a10 l.length c10] 24)
          have f1 := cell_alloc p1 (.cells #[.int .i64 k, .int .i64 n, .slice a10 l.length c10] 24)
          have f2 := cell_alloc p2 (.cells #[.int .i64 k, .int .i64 n, .slice a10 l.length c10] 24)
          have hbx : Below w10.heap.size w10 (w10.alloc (.cells #[.int .i64 k, .int .i64 n, .slice a10 l.length c10] 24)) := (Below.refl _ _).alloc (Nat.le_refl _) _
          have HEQ := Lib.hid (sig_Equal k n k n _ _ l l _ (HS10.out.below hbx) (HS.out.below (ext_trans HW10.out hbx)))
          rw [show sEq k n l k n l = true by simp [sEq, sameC]] at HEQ
          have HBX := Lib.hid (ext_trans HW10.out hbx)
          clear hbx
          go_wp2_with fail
          refine HEQ.out.mono ?_
          rintro e w11 ⟨rfl, hb⟩
          have HW11 := Lib.hid (HBX.out.trans (hb.mono HBX.out.size))
          clear hb
          go_wp2_with fail
          go_ret
          exact ⟨rfl, HW11.out⟩
end Go.Proofs.YtlbcfmhpkcpmaaaGreatDoor
