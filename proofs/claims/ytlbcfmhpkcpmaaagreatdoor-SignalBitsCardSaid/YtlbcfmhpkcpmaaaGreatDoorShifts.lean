import Derived.Test.YtlbcfmhpkcpmaaaGreatDoorNormal
import Derived.Test.YtlbcfmhpkcpmaaaGreatDoorPl2
namespace Go.Proofs.YtlbcfmhpkcpmaaaGreatDoor
open Go.RowKit

theorem lists_two {w W : World} {v v2 : Value} {l l2 : List Ch} (h : SlR W v l.length (chs l)) (hl : l.length ≤ 5000) (hm : ∀ c ∈ l, 0 ≤ c.1 ∧ c.1 ≤ 1099511627776) (h2 : SlR W v2 l2.length (chs l2)) (hl2 : l2.length ≤ 5000) (hm2 : ∀ c ∈ l2, 0 ≤ c.1 ∧ c.1 ≤ 1099511627776) (T : TypeId) (hb : Below W.heap.size W w) :
    SlR (w.alloc (.cells #[v, v2] T)) (.slice (some ⟨w.heap.size, 0, none⟩) 2 2) [(v, l), (v2, l2)].length ([(v, l), (v2, l2)].map Prod.fst) ∧ Lists (w.alloc (.cells #[v, v2] T)) [(v, l), (v2, l2)] := by
  have hb2 : Below W.heap.size W (w.alloc (.cells #[v, v2] T)) := hb.alloc hb.size _
  refine ⟨own_sl (OwnRow.fresh w #[v, v2] T) rfl (Nat.le_refl _) (by decide), fun x hx => ?_⟩
  rcases List.mem_cons.1 hx with rfl | hx
  · exact ⟨h.below hb2, hl, hm⟩
  · rw [List.mem_singleton] at hx
    subst hx
    exact ⟨h2.below hb2, hl2, hm2⟩
theorem sv_lists {k n : Int} {l : List Ch} (h : sv k n l = true) : ∀ c ∈ l, 0 ≤ c.1 ∧ c.1 ≤ 1099511627776 := fun c hc => ⟨(sv_mem h c hc).1, (sv_mem h c hc).2.1⟩
theorem OwnRow.alloc' {w : World} {b : Nat} {xs : List Value} (h : OwnRow w b xs) (hb : b < w.heap.size) (o : Obj) : OwnRow (w.alloc o) b xs := h.alloc hb o

theorem sig_At_ok (k n : Int) (v : Value) (l : List Ch) (t : Int) (x : ByteArray) (w : World) (hg : Glob w) (hs : SlR w v l.length (chs l)) (h : sv k n l = true) (h0 : 0 ≤ t) (h1 : t ≤ 1099511627776) (hx : val (vi k n) l t = x) :
    Calls Tryz.prog 20 #[.agg #[.int .i64 k, .int .i64 n, v], .int .i64 t] w fun e w' => e = .returned (.tuple #[.string x, .int .i64 0]) ∧ Below w.heap.size w w' := by
  have := sig_At k n v l t w hg hs (sv_fit h)
  rw [atR_eq h h0 h1, hx] at this
  exact this


set_option maxHeartbeats 3200000 in
set_option maxRecDepth 100000 in
theorem law_SignalShifts (k n by_ : Int) (v : Value) (l : List Ch) (w : World) (hg : Glob w) (hs : SlR w v l.length (chs l)) :
    Calls Tryz.prog 9 #[.agg #[.int .i64 k, .int .i64 n, v], .int .i64 by_] w fun e w' => e = .returned (.bool true) ∧ Below w.heap.size w w' := by
  obtain ⟨a, cap, rfl, hc, hm⟩ := hs.shape
  unfold maxLen at hm
  have HS := Lib.hid hs
  have HG := Lib.hid hg
  have hbw : Below w.heap.size w (w.alloc (.cells #[.int .i64 k, .int .i64 n, .slice a l.length cap] 24)) := (Below.refl _ _).alloc (Nat.le_refl _) _
  have HR0 := Lib.hid (OwnRow.fresh w #[.int .i64 k, .int .i64 n, .slice a l.length cap] 24)
  have HAW := Lib.hid (law_awake _ (HG.out.below hbw))
  have HBW := Lib.hid hbw
  clear hs hg hbw
  go_enter Tryz.func9, Tryz.ntmps9
  go_wp2_with fail
  refine HAW.out.mono ?_
  rintro e w1 ⟨rfl, hb1⟩
  have HR1 := Lib.hid (HR0.out.below hb1 (by simp))
  have HB1 := Lib.hid (HBW.out.trans (hb1.mono HBW.out.size))
  have hl1 : w.heap.size < w1.heap.size := by have := hb1.size; simp at this; omega
  clear hb1 HR0 HAW
  have p0 := HR1.out.cell (j := 0) rfl
  have p1 := HR1.out.cell (j := 1) rfl
  have p2 := HR1.out.cell (j := 2) rfl
  go_wp2_with fail
  refine (ref_Few _ l 40 w1 (HS.out.below HB1.out)).mono ?_
  rintro e w1' ⟨rfl, rfl⟩
  cases hfew : few l 40
  · go_wp2_with fail
    go_ret
    exact ⟨rfl, HB1.out⟩
  obtain ⟨hfit, hl40⟩ := few_fit hfew
  have HF := Lib.hid hfit
  clear hfew hfit
  have HSH := Lib.hid (sig_Shift k n _ l by_ w1' (HG.out.below HB1.out) (HS.out.below HB1.out) HF.out)
  go_wp2_with fail
  rcases shift_cases (k := k) (n := n) (l := l) (by_ := by_) with ⟨er, her, hR⟩ | ⟨hsv, hlo, hhi, hbad⟩
  · rw [hR] at HSH
    have heb : (er != 0) = true := by rw [bne_iff_ne]; exact her
    clear hR her
    refine HSH.out.mono ?_
    rintro e w2 ⟨v2, rfl, ho2, hb2⟩
    obtain ⟨a2, c2, rfl, -, -⟩ := (SlR.of_own ho2).shape
    have HB2 := Lib.hid (ext_trans HB1.out hb2)
    clear ho2 hb2
    go_wp2_with fail
    go_ret
    exact ⟨rfl, HB2.out.alloc HB2.out.size _⟩
  · obtain ⟨m, hR, hsm, hml, hval, -⟩ := shift_ok hsv (by omega) hlo hhi hbad
    have HBACK : Hid (0 ≤ by_ → shiftR k n m (-by_) = ((k, n, l), 0)) := Lib.hid (fun h0 => shift_back hsv (by omega) h0 hhi hbad hR hsm)
    rw [hR] at HSH
    have HSV := Lib.hid hsv
    have HSM := Lib.hid hsm
    have HVAL := Lib.hid hval
    have HFM := Lib.hid (sv_fit hsm)
    have hml2 : m.length ≤ 41 := by omega
    clear hR hsv hsm hval hbad hml
    refine HSH.out.mono ?_
    rintro e w2 ⟨v2, rfl, ho2, hb2⟩
    have hs2 := SlR.of_own ho2
    dsimp only at hs2
    obtain ⟨a2, c2, rfl, -, -⟩ := hs2.shape
    have HS2 := Lib.hid hs2
    have HB2 := Lib.hid (ext_trans HB1.out hb2)
    have HR2 := Lib.hid ((HR1.out.below hb2 hl1).alloc (Nat.lt_of_lt_of_le hl1 hb2.size) (.cells #[.int .i64 k, .int .i64 n, .slice a2 m.length c2] 24))
    have hl2 : w.heap.size < w2.heap.size := Nat.lt_of_lt_of_le hl1 hb2.size
    have hbx : Below w2.heap.size w2 (w2.alloc (.cells #[.int .i64 k, .int .i64 n, .slice a2 m.length c2] 24)) := (Below.refl _ _).alloc (Nat.le_refl _) _
    have HX2 := Lib.hid (OwnRow.fresh w2 #[.int .i64 k, .int .i64 n, .slice a2 m.length c2] 24)
    have HV := Lib.hid (sig_Valid k n _ m _ (HG.out.below (ext_trans HB2.out hbx)) (HS2.out.below hbx) HFM.out)
    rw [HSM.out] at HV
    have HBX := Lib.hid hbx
    clear ho2 hb2 hs2 HSH p0 p1 p2 hbx
    have p0 := HR2.out.cell (j := 0) rfl
    have p1 := HR2.out.cell (j := 1) rfl
    have p2 := HR2.out.cell (j := 2) rfl
    go_wp2_with fail
    refine HV.out.mono ?_
    rintro e w3 ⟨rfl, hb3⟩
    have HR3 := Lib.hid (HR2.out.below hb3 (by simp; omega))
    have HX3 := Lib.hid (HX2.out.below hb3 (by simp))
    have HB23 := Lib.hid (HBX.out.trans (hb3.mono HBX.out.size))
    clear hb3 p0 p1 p2 HR2 HX2 HV
    have p0 := HR3.out.cell (j := 0) rfl
    have p1 := HR3.out.cell (j := 1) rfl
    have p2 := HR3.out.cell (j := 2) rfl
    have q0 := HX3.out.cell (j := 0) rfl
    have q1 := HX3.out.cell (j := 1) rfl
    have q2 := HX3.out.cell (j := 2) rfl
    go_wp2_with fail
    obtain ⟨hls, hlists⟩ := lists_two (W := w3) (HS.out.below (ext_trans HB2.out HB23.out)) (by omega) (sv_lists HSV.out) (HS2.out.below HB23.out) (by omega) (sv_lists HSM.out) 22 (Below.refl _ w3)
    refine (law_times _ [(.slice a l.length cap, l), (.slice a2 m.length c2, m)] _ hls hlists (by simp)).mono ?_
    rintro e w6 ⟨ts, at6, ct6, rfl, htl, htm, ho6, hb6⟩
    have hb6' := ext_alloc hb6
    have HB26 := Lib.hid (ext_trans HB23.out hb6')
    have hl3 : w2.heap.size < w3.heap.size := cell_lt q0
    have HR6 := Lib.hid (HR3.out.below hb6' (by omega))
    have HX6 := Lib.hid (HX3.out.below hb6' hl3)
    have HB6 := Lib.hid (ext_trans HB2.out HB26.out)
    have HT := Lib.hid htm
    have HST := Lib.hid (SlR.of_own ho6)
    have hl6 : w2.heap.size < w6.heap.size := Nat.lt_of_lt_of_le hl3 hb6'.size
    obtain ⟨-, -, htv, htc, htc2⟩ := (SlR.of_own ho6).shape
    clear hls hlists htm ho6 hb6 hb6' p0 p1 p2 q0 q1 q2 HR3 HX3
    go_wp2_with fail
    go_loopw [43] (fun i wr => ∃ (j : Nat), j ≤ ts.length ∧ i = .int .i64 j ∧ Below w6.heap.size w6 wr)
      (fun i _ => ts.length - (intOf i).toNat)
    case atStart => exact ⟨0, Nat.zero_le _, rfl, Below.refl _ _⟩
    case round =>
      obtain ⟨j, hj, rfl, hb⟩ := hrel
      have HZr := Lib.hid hb
      have HRr := Lib.hid (HR6.out.below hb (by omega))
      have HXr := Lib.hid (HX6.out.below hb hl6)
      have HWr := Lib.hid (ext_trans HB6.out hb)
      have HYr := Lib.hid (ext_trans HB26.out hb)
      have hw := nat_wrap j (by omega)
      have hlrr : w2.heap.size < wr.heap.size := Nat.lt_of_lt_of_le hl6 hb.size
      clear hb
      have p0 := HRr.out.cell (j := 0) rfl
      have p1 := HRr.out.cell (j := 1) rfl
      have p2 := HRr.out.cell (j := 2) rfl
      have q0 := HXr.out.cell (j := 0) rfl
      have q1 := HXr.out.cell (j := 1) rfl
      have q2 := HXr.out.cell (j := 2) rfl
      by_cases hlt : j < ts.length
      · obtain ⟨b6, o6, rfl, d0⟩ := (HST.out.below HZr.out).int hlt
        obtain ⟨ht0, ht1⟩ := HT.out ts[j] (List.getElem_mem hlt)
        generalize ts[j] = t at d0 ht0 ht1
        have HI := Lib.hid (val_Initial k n wr)
        by_cases hge : by_ ≤ t
        · have hw1 : IntKind.i64.wrap (t - by_) = t - by_ := IntWalk.i64_in _ (by omega)
          obtain ⟨x, hx⟩ : ∃ x, val (vi k n) l (min (t - by_) 1099511627776) = x := ⟨_, rfl⟩
          have HAs := Lib.hid (fun W hW hS => sig_At_ok k n (.slice a l.length cap) l (min (t - by_) 1099511627776) x W hW hS HSV.out (by omega) (by omega) hx)
          have HAm := Lib.hid (fun W hW hS => sig_At_ok k n (.slice a2 m.length c2) m t x W hW hS HSM.out ht0 ht1 (by rw [HVAL.out t ht0 ht1, if_pos hge, hx]))
          clear hx
          go_wp2_with fail
          refine HI.out.mono ?_
          rintro e w7 ⟨rfl, hb⟩
          have HR7 := Lib.hid (HRr.out.below hb (by omega))
          have HX7 := Lib.hid (HXr.out.below hb (by omega))
          have HW7 := Lib.hid (ext_trans HWr.out hb)
          have HY7 := Lib.hid (ext_trans HYr.out hb)
          have HZ7 := Lib.hid (ext_trans HZr.out hb)
          have hlr7 := Nat.lt_of_lt_of_le hlrr hb.size
          clear hb p0 p1 p2 q0 q1 q2
          have p0 := HR7.out.cell (j := 0) rfl
          have p1 := HR7.out.cell (j := 1) rfl
          have p2 := HR7.out.cell (j := 2) rfl
          have q0 := HX7.out.cell (j := 0) rfl
          have q1 := HX7.out.cell (j := 1) rfl
          have q2 := HX7.out.cell (j := 2) rfl
          go_wp2_with fail
          refine (HAs.out _ (HG.out.below HW7.out) (HS.out.below HW7.out)).mono ?_
          rintro e w8 ⟨rfl, hb⟩
          have HR8 := Lib.hid (HR7.out.below hb (by omega))
          have HX8 := Lib.hid (HX7.out.below hb (by omega))
          have HW8 := Lib.hid (ext_trans HW7.out hb)
          have HY8 := Lib.hid (ext_trans HY7.out hb)
          have HZ8 := Lib.hid (ext_trans HZ7.out hb)
          have hlr8 := Nat.lt_of_lt_of_le hlr7 hb.size
          clear hb p0 p1 p2 q0 q1 q2
          have p0 := HR8.out.cell (j := 0) rfl
          have p1 := HR8.out.cell (j := 1) rfl
          have p2 := HR8.out.cell (j := 2) rfl
          have q0 := HX8.out.cell (j := 0) rfl
          have q1 := HX8.out.cell (j := 1) rfl
          have q2 := HX8.out.cell (j := 2) rfl
          go_wp2_with fail
          refine (HAm.out _ (HG.out.below HW8.out) (HS2.out.below HY8.out)).mono ?_
          rintro e w9 ⟨rfl, hb⟩
          have HR9 := Lib.hid (HR8.out.below hb (by omega))
          have HX9 := Lib.hid (HX8.out.below hb (by omega))
          have HW9 := Lib.hid (ext_trans HW8.out hb)
          have HY9 := Lib.hid (ext_trans HY8.out hb)
          have HZ9 := Lib.hid (ext_trans HZ8.out hb)
          have hlr9 := Nat.lt_of_lt_of_le hlr8 hb.size
          clear hb p0 p1 p2 q0 q1 q2
          have p0 := HR9.out.cell (j := 0) rfl
          have p1 := HR9.out.cell (j := 1) rfl
          have p2 := HR9.out.cell (j := 2) rfl
          have q0 := HX9.out.cell (j := 0) rfl
          have q1 := HX9.out.cell (j := 1) rfl
          have q2 := HX9.out.cell (j := 2) rfl
          go_wp2_with fail
          go_roundw
          case rel => exact ⟨j + 1, by omega, by go_num, HZ9.out⟩
          case measure => simp [intOf]; omega
        · have HAm := Lib.hid (fun W hW hS => sig_At_ok k n (.slice a2 m.length c2) m t (vi k n) W hW hS HSM.out ht0 ht1 (by rw [HVAL.out t ht0 ht1, if_neg hge]))
          have hlt' : t < by_ := by omega
          generalize vi k n = x at HI HAm
          clear hge
          go_wp2_with fail
          refine HI.out.mono ?_
          rintro e w7 ⟨rfl, hb⟩
          have HR7 := Lib.hid (HRr.out.below hb (by omega))
          have HX7 := Lib.hid (HXr.out.below hb (by omega))
          have HW7 := Lib.hid (ext_trans HWr.out hb)
          have HY7 := Lib.hid (ext_trans HYr.out hb)
          have HZ7 := Lib.hid (ext_trans HZr.out hb)
          have hlr7 := Nat.lt_of_lt_of_le hlrr hb.size
          clear hb p0 p1 p2 q0 q1 q2
          have p0 := HR7.out.cell (j := 0) rfl
          have p1 := HR7.out.cell (j := 1) rfl
          have p2 := HR7.out.cell (j := 2) rfl
          have q0 := HX7.out.cell (j := 0) rfl
          have q1 := HX7.out.cell (j := 1) rfl
          have q2 := HX7.out.cell (j := 2) rfl
          go_wp2_with fail
          refine (HAm.out _ (HG.out.below HW7.out) (HS2.out.below HY7.out)).mono ?_
          rintro e w9 ⟨rfl, hb⟩
          have HR9 := Lib.hid (HR7.out.below hb (by omega))
          have HX9 := Lib.hid (HX7.out.below hb (by omega))
          have HW9 := Lib.hid (ext_trans HW7.out hb)
          have HY9 := Lib.hid (ext_trans HY7.out hb)
          have HZ9 := Lib.hid (ext_trans HZ7.out hb)
          have hlr9 := Nat.lt_of_lt_of_le hlr7 hb.size
          clear hb p0 p1 p2 q0 q1 q2
          have p0 := HR9.out.cell (j := 0) rfl
          have p1 := HR9.out.cell (j := 1) rfl
          have p2 := HR9.out.cell (j := 2) rfl
          have q0 := HX9.out.cell (j := 0) rfl
          have q1 := HX9.out.cell (j := 1) rfl
          have q2 := HX9.out.cell (j := 2) rfl
          go_wp2_with fail
          go_roundw
          case rel => exact ⟨j + 1, by omega, by go_num, HZ9.out⟩
          case measure => simp [intOf]; omega
      · obtain rfl : j = ts.length := by omega
        by_cases hneg : by_ < 0
        · go_wp2_with fail
          go_ret
          exact ⟨rfl, HWr.out⟩
        · have h0 : 0 ≤ by_ := by omega
          have HSB := Lib.hid (sig_Shift k n _ m (-by_) wr (HG.out.below HWr.out) (HS2.out.below HYr.out) HFM.out)
          rw [HBACK.out h0] at HSB
          clear hneg
          go_wp2_with fail
          refine HSB.out.mono ?_
          rintro e w7 ⟨v7, rfl, ho7, hb⟩
          have hs7 := SlR.of_own ho7
          dsimp only at hs7
          obtain ⟨a7, c7, rfl, -, -⟩ := hs7.shape
          have HS7 := Lib.hid hs7
          clear ho7 hs7
          have HR7 := Lib.hid (HRr.out.below hb (by omega))
          have HX7 := Lib.hid (HXr.out.below hb (by omega))
          have HW7 := Lib.hid (ext_trans HWr.out hb)
          have HY7 := Lib.hid (ext_trans HYr.out hb)
          have HZ7 := Lib.hid (ext_trans HZr.out hb)
          have hlr7 := Nat.lt_of_lt_of_le hlrr hb.size
          clear hb p0 p1 p2 q0 q1 q2
          have p0 := HR7.out.cell (j := 0) rfl
          have p1 := HR7.out.cell (j := 1) rfl
          have p2 := HR7.out.cell (j := 2) rfl
          have q0 := HX7.out.cell (j := 0) rfl
          have q1 := HX7.out.cell (j := 1) rfl
          have q2 := HX7.out.cell (j := 2) rfl
          have f0 := cell_alloc p0 (.cells #[.int .i64 k, .int .i64 n, .slice a7 l.length c7] 24)
          have f1 := cell_alloc p1 (.cells #[.int .i64 k, .int .i64 n, .slice a7 l.length c7] 24)
          have f2 := cell_alloc p2 (.cells #[.int .i64 k, .int .i64 n, .slice a7 l.length c7] 24)
          have hbx : Below w7.heap.size w7 (w7.alloc (.cells #[.int .i64 k, .int .i64 n, .slice a7 l.length c7] 24)) := (Below.refl _ _).alloc (Nat.le_refl _) _
          have HEQ := Lib.hid (sig_Equal k n k n _ _ l l _ (HS7.out.below hbx) (HS.out.below (ext_trans HW7.out hbx)))
          rw [show sEq k n l k n l = true by simp [sEq, sameC]] at HEQ
          have HBX := Lib.hid (ext_trans HW7.out hbx)
          clear hbx
          go_wp2_with fail
          refine HEQ.out.mono ?_
          rintro e w8 ⟨rfl, hb⟩
          have HW8 := Lib.hid (HBX.out.trans (hb.mono HBX.out.size))
          clear hb
          go_wp2_with fail
          go_ret
          exact ⟨rfl, HW8.out⟩
end Go.Proofs.YtlbcfmhpkcpmaaaGreatDoor
