import Derived.Test.YtlbcfmhpkcpmaaaGreatDoorPl1
import Derived.Test.YtlbcfmhpkcpmaaaGreatDoorAw0
import Derived.Test.YtlbcfmhpkcpmaaaGreatDoorRefA
import Derived.Test.YtlbcfmhpkcpmaaaGreatDoorEq
import Derived.Test.YtlbcfmhpkcpmaaaGreatDoorTimes
namespace Go.Proofs.YtlbcfmhpkcpmaaaGreatDoor
open Go.RowKit

theorem few_fit {l : List Ch} (h : few l 40 = true) : Fit l ∧ l.length ≤ 40 := by
  unfold few fewV at h
  rw [Bool.and_eq_true, List.all_eq_true, decide_eq_true_iff] at h
  obtain ⟨h1, h2⟩ := h
  refine ⟨⟨by omega, fun c hc => ?_⟩, by omega⟩
  have := of_decide_eq_true (h1 c hc)
  omega
theorem Fit.sub {l m : List Ch} (h : Fit l) (hm : List.Sublist m l) : Fit m := ⟨Nat.le_trans hm.length_le h.1, fun c hc => h.2 c (hm.mem hc)⟩
theorem normalizeR_cases {k n : Int} {l : List Ch} (hl : l.length ≤ 4096) : (∃ e, e ≠ 0 ∧ normalizeR k n l = ((0, 0, []), e)) ∨ (Nrm k n l ∧ normalizeR k n l = ((k, n, normS k n l), 0)) := by
  unfold normalizeR
  cases hv : vt k n
  · exact .inl ⟨7, by decide, by simp⟩
  · rw [if_neg (by simp)]
    by_cases hz : nzGo k n 0 l = 0
    · have hN : Nrm k n l := ⟨hv, hl, (nzGo_zero.1 hz).1, (nzGo_zero.1 hz).2⟩
      rw [if_neg (by omega), hN.made]
      exact .inr ⟨hN, rfl⟩
    · rw [if_pos hz]
      exact .inl ⟨_, hz, rfl⟩
theorem normalizeR_valid {k n : Int} {m : List Ch} (h : sv k n m = true) : normalizeR k n m = ((k, n, m), 0) := by
  have hN := sv_Nrm h
  rcases normalizeR_cases (k := k) (n := n) (l := m) hN.2.1 with ⟨e, he, h2⟩ | ⟨-, h2⟩
  · exfalso
    unfold normalizeR at h2
    rw [if_neg (by rw [hN.1]; simp), if_neg (by rw [nzGo_zero.2 ⟨hN.2.2.1, hN.2.2.2⟩]; simp), hN.made] at h2
    exact he (congrArg Prod.snd h2).symm
  · rw [h2, sv_norm h]
theorem Nrm.lists {k n : Int} {l : List Ch} (h : Nrm k n l) : ∀ c ∈ l, 0 ≤ c.1 ∧ c.1 ≤ 1099511627776 := fun c hc => ⟨h.2.2.1.mem c hc, (h.2.2.2 c hc).1⟩
theorem val_snoc (v : ByteArray) (l : List Ch) (q : Nat) (h : q < l.length) (t : Int) : val v (l.take (q + 1)) t = if l[q].1 ≤ t then l[q].2 else val v (l.take q) t := by
  rw [List.take_succ_eq_append_getElem h, val_append]; rfl
theorem hasT_snoc (l : List Ch) (q : Nat) (h : q < l.length) (t : Int) : hasT (l.take (q + 1)) t = (hasT (l.take q) t || l[q].1 == t) := by
  unfold hasT
  rw [List.take_succ_eq_append_getElem h, List.any_append, List.any_cons, List.any_nil, Bool.or_false]

theorem SlR.int {w : World} {a : Option Addr} {cap : Nat} {l : List Int} (h : SlR w (.slice a l.length cap) l.length (ints l)) {j : Nat} (hj : j < l.length) : ∃ b o, a = some ⟨b, o, none⟩ ∧ w.cell? ⟨b, o + j, none⟩ = some (.int .i64 l[j]) := by
  obtain ⟨b, o, cap', hv, -, -, hcell⟩ := h.at (by omega)
  injection hv with e1 _ _
  subst e1
  exact ⟨b, o, rfl, hcell j _ (by simp [ints, List.getElem?_eq_getElem hj])⟩
theorem lists_one {w W : World} {v : Value} {l : List Ch} (h : SlR W v l.length (chs l)) (hl : l.length ≤ 5000) (hm : ∀ c ∈ l, 0 ≤ c.1 ∧ c.1 ≤ 1099511627776) (T : TypeId) (hb : Below w.heap.size W w) (hw : W.heap.size ≤ w.heap.size) :
    SlR (w.alloc (.cells #[v] T)) (.slice (some ⟨w.heap.size, 0, none⟩) 1 1) [(v, l)].length ([(v, l)].map Prod.fst) ∧ Lists (w.alloc (.cells #[v] T)) [(v, l)] := by
  have hb2 : Below W.heap.size W (w.alloc (.cells #[v] T)) := by
    have := hb.mono hw
    exact this.alloc hw _
  refine ⟨own_sl (OwnRow.fresh w #[v] T) rfl (Nat.le_refl _) (by decide), fun x hx => ?_⟩
  rw [List.mem_singleton] at hx
  subst hx
  exact ⟨h.below hb2, hl, hm⟩

set_option maxHeartbeats 3200000 in
set_option maxRecDepth 100000 in
theorem law_SignalNormal (k n : Int) (v : Value) (l : List Ch) (w : World) (hg : Glob w) (hs : SlR w v l.length (chs l)) :
    Calls Tryz.prog 7 #[.int .i64 k, .int .i64 n, v] w fun e w' => e = .returned (.bool true) ∧ Below w.heap.size w w' := by
  obtain ⟨a, cap, rfl, hc, hm⟩ := hs.shape
  unfold maxLen at hm
  have HS := Lib.hid hs
  have HG := Lib.hid hg
  clear hs hg
  go_enter Tryz.func7, Tryz.ntmps7
  go_wp2_with fail
  refine (law_awake w HG.out).mono ?_
  rintro e w1 ⟨rfl, hb1⟩
  have HB1 := Lib.hid hb1
  clear hb1
  go_wp2_with fail
  refine (ref_Few _ l 40 w1 (HS.out.below HB1.out)).mono ?_
  rintro e w1' ⟨rfl, rfl⟩
  cases hfew : few l 40
  · go_wp2_with fail
    go_ret
    exact ⟨rfl, HB1.out⟩
  obtain ⟨hfit, hl40⟩ := few_fit hfew
  have HF := Lib.hid hfit
  clear hfew hfit
  have HN := Lib.hid (sig_Normalize k n _ l w1' (HG.out.below HB1.out) (HS.out.below HB1.out) HF.out)
  go_wp2_with fail
  rcases normalizeR_cases (k := k) (n := n) (l := l) (by omega) with ⟨er, her, hR⟩ | ⟨hN, hR⟩
  · rw [hR] at HN
    have heb : (er != 0) = true := by rw [bne_iff_ne]; exact her
    clear hR her
    refine HN.out.mono ?_
    rintro e w2 ⟨v2, rfl, ho2, hb2⟩
    obtain ⟨a2, c2, rfl, -, -⟩ := (SlR.of_own ho2).shape
    have HB2 := Lib.hid (ext_trans HB1.out hb2)
    clear ho2 hb2
    go_wp2_with fail
    go_ret
    exact ⟨rfl, HB2.out.alloc HB2.out.size _⟩
  · rw [hR] at HN
    have hsvm := hN.sv
    have HNR := Lib.hid hN
    have HSUB := Lib.hid (normGo_sub k l (vi k n))
    have HVAL := Lib.hid (fun t => hN.val t)
    have hHas : k = 3 → ∀ t, hasT (normS k n l) t = hasT l t := fun hk t => by subst hk; exact hasT_norm3 (n := n) l _
    have HHAS := Lib.hid hHas
    have HSUB2 : Hid (List.Sublist (normS k n l) l) := HSUB
    clear hR hN hHas HSUB
    generalize normS k n l = m at *
    have hml : m.length ≤ 40 := Nat.le_trans HSUB2.out.length_le hl40
    have HFM := Lib.hid (HF.out.sub HSUB2.out)
    have HSVM := Lib.hid hsvm
    have HNM := Lib.hid (normalizeR_valid hsvm)
    clear hsvm
    refine HN.out.mono ?_
    rintro e w2 ⟨v2, rfl, ho2, hb2⟩
    have hs2 := SlR.of_own ho2
    dsimp only at hs2
    obtain ⟨a2, c2, rfl, -, -⟩ := hs2.shape
    have HS2 := Lib.hid hs2
    have HB2 := Lib.hid (ext_trans HB1.out hb2)
    clear ho2 hb2 hs2 HN
    have hbx : Below w2.heap.size w2 (w2.alloc (.cells #[.int .i64 k, .int .i64 n, .slice a2 m.length c2] 24)) := (Below.refl _ _).alloc (Nat.le_refl _) _
    have HN2 := Lib.hid (sig_Normalize k n _ m _ (HG.out.below (ext_trans HB2.out hbx)) (HS2.out.below hbx) HFM.out)
    rw [HNM.out] at HN2
    clear hbx
    go_wp2_with fail
    refine HN2.out.mono ?_
    rintro e w3 ⟨v3, rfl, ho3, hb3⟩
    have hs3 := SlR.of_own ho3
    dsimp only at hs3
    obtain ⟨a3, c3, rfl, -, -⟩ := hs3.shape
    obtain ⟨p0, p1, p2⟩ := box3 hb3
    have HS3 := Lib.hid hs3
    have HB3 := Lib.hid (ext_alloc hb3)
    have g0 := cell_alloc p0 (.cells #[.int .i64 k, .int .i64 n, .slice a3 m.length c3] 24)
    have g1 := cell_alloc p1 (.cells #[.int .i64 k, .int .i64 n, .slice a3 m.length c3] 24)
    have g2 := cell_alloc p2 (.cells #[.int .i64 k, .int .i64 n, .slice a3 m.length c3] 24)
    have hbx : Below w3.heap.size w3 (w3.alloc (.cells #[.int .i64 k, .int .i64 n, .slice a3 m.length c3] 24)) := (Below.refl _ _).alloc (Nat.le_refl _) _
    have HB3x := Lib.hid (ext_trans HB3.out hbx)
    have HV := Lib.hid (sig_Valid k n _ m _ (HG.out.below (ext_trans HB2.out HB3x.out)) (HS2.out.below HB3x.out) HFM.out)
    rw [HSVM.out] at HV
    clear ho3 hb3 hs3 hbx HN2
    go_wp2_with fail
    refine HV.out.mono ?_
    rintro e w4 ⟨rfl, hb4⟩
    have x0 := (boxN hb4 0).1
    have x1 := (boxN hb4 1).1
    have x2 := (boxN hb4 2).1
    have hb4' := ext_alloc hb4
    have q0 := (hb4'.cell (p := ⟨w2.heap.size, 0, none⟩) (cell_lt p0)).trans p0
    have q1 := (hb4'.cell (p := ⟨w2.heap.size, 1, none⟩) (cell_lt p0)).trans p1
    have q2 := (hb4'.cell (p := ⟨w2.heap.size, 2, none⟩) (cell_lt p0)).trans p2
    have HB4 := Lib.hid (ext_trans HB3.out hb4')
    have HS4 := Lib.hid (HS3.out.below hb4')
    clear hb4 hb4' p0 p1 p2 g0 g1 g2
    have HEQ := Lib.hid (sig_Equal k n k n _ _ m m w4 (HS2.out.below HB4.out) HS4.out)
    rw [show sEq k n m k n m = true by simp [sEq, sameC]] at HEQ
    go_wp2_with fail
    refine HEQ.out.mono ?_
    rintro e w5 ⟨rfl, hb5⟩
    have r0 := (hb5.cell (p := ⟨w2.heap.size, 0, none⟩) (cell_lt q0)).trans q0
    have r1 := (hb5.cell (p := ⟨w2.heap.size, 1, none⟩) (cell_lt q0)).trans q1
    have r2 := (hb5.cell (p := ⟨w2.heap.size, 2, none⟩) (cell_lt q0)).trans q2
    have HB5 := Lib.hid (ext_trans HB4.out hb5)
    clear hb5 q0 q1 q2 x0 x1 x2 HEQ HV
    go_wp2_with fail
    obtain ⟨hls, hlists⟩ := lists_one (HS.out.below (ext_trans HB2.out HB5.out)) (by omega) HNR.out.lists 22 (Below.refl _ w5) (Nat.le_refl _)
    refine (law_times _ [(.slice a l.length cap, l)] _ hls hlists (by simp)).mono ?_
    rintro e w6 ⟨ts, at6, ct6, rfl, htl, htm, ho6, hb6⟩
    have hb6' := ext_alloc hb6
    have s0 := (hb6'.cell (p := ⟨w2.heap.size, 0, none⟩) (cell_lt r0)).trans r0
    have s1 := (hb6'.cell (p := ⟨w2.heap.size, 1, none⟩) (cell_lt r0)).trans r1
    have s2 := (hb6'.cell (p := ⟨w2.heap.size, 2, none⟩) (cell_lt r0)).trans r2
    have HB6 := Lib.hid (ext_trans (ext_trans HB2.out HB5.out) hb6')
    have HB26 := Lib.hid (ext_trans HB5.out hb6')
    have HT := Lib.hid htm
    have HST := Lib.hid (SlR.of_own ho6)
    obtain ⟨-, -, htv, htc, htc2⟩ := (SlR.of_own ho6).shape
    have hl2 : w2.heap.size < w6.heap.size := cell_lt s0
    clear hls hlists htm ho6 hb6 hb6' r0 r1 r2
    go_wp2_with fail
    go_loopw [84] (fun i wr => ∃ (j : Nat), j ≤ ts.length ∧ i = .int .i64 j ∧ Below w6.heap.size w6 wr)
      (fun i _ => ts.length - (intOf i).toNat)
    case atStart => exact ⟨0, Nat.zero_le _, rfl, Below.refl _ _⟩
    case round =>
      obtain ⟨j, hj, rfl, hb⟩ := hrel
      have HB := Lib.hid hb
      have u0 := (hb.cell (p := ⟨w2.heap.size, 0, none⟩) hl2).trans s0
      have u1 := (hb.cell (p := ⟨w2.heap.size, 1, none⟩) hl2).trans s1
      have u2 := (hb.cell (p := ⟨w2.heap.size, 2, none⟩) hl2).trans s2
      have HB0 := Lib.hid (ext_trans HB6.out hb)
      have hw := nat_wrap j (by omega)
      clear hb
      by_cases hlt : j < ts.length
      · obtain ⟨b6, o6, rfl, d0⟩ := (HST.out.below HB.out).int hlt
        obtain ⟨ht0, ht1⟩ := HT.out ts[j] (List.getElem_mem hlt)
        generalize ts[j] = t at d0 ht0 ht1
        have HI := Lib.hid (val_Initial k n wr)
        have HVT := Lib.hid (HVAL.out t)
        generalize hvi : vi k n = v0 at HI HVT
        have HVI := Lib.hid hvi
        obtain ⟨wo, rfl⟩ : ∃ wo : World, wo = wr := ⟨_, rfl⟩
        clear hvi
        go_wp2_with fail
        refine HI.out.mono ?_
        rintro e w7 ⟨rfl, hb7⟩
        have HB7 := Lib.hid (ext_trans HB.out hb7)
        have HB07 := Lib.hid (ext_trans HB0.out hb7)
        clear hb7 u0 u1 u2 d0
        go_wp2_with fail
        go_loopw [13, 14, 93] (fun x_ th_ i wr => ∃ (q : Nat) (x : ByteArray) (th : Bool), q ≤ l.length ∧ i = .int .i64 q ∧ x_ = .string x ∧ th_ = .bool th ∧ x = val v0 (l.take q) t ∧ th = hasT (l.take q) t ∧ Below w6.heap.size w6 wr ∧ Below w.heap.size w wr)
          (fun _ _ i _ => l.length - (intOf i).toNat)
        case atStart => exact ⟨0, v0, false, Nat.zero_le _, rfl, rfl, rfl, rfl, rfl, HB7.out, HB07.out⟩
        case round =>
          obtain ⟨q, x, th, hq, rfl, rfl, rfl, hx, hth, hbr, hbw⟩ := hrel
          have HX := Lib.hid hx
          have HTH := Lib.hid hth
          have HBR := Lib.hid hbr
          have HBW := Lib.hid hbw
          have hwq := nat_wrap q (by omega)
          have hszr := hbw.size
          have hszr2 := hbr.size
          clear hx hth hbr hbw
          by_cases hlq : q < l.length
          · obtain ⟨b2, o2, rfl, f0, f1⟩ := (HS.out.below HBW.out).ch hlq
            have HX2 := Lib.hid (val_snoc v0 l q hlq t)
            have HT2 := Lib.hid (hasT_snoc l q hlq t)
            generalize l[q] = c at f0 f1 HX2 HT2
            obtain ⟨tc, sc⟩ := c
            dsimp only at f0 f1 HX2 HT2
            by_cases hle : tc ≤ t
            · by_cases heq : tc = t
              · have HLE := Lib.hid hle
                have HEQ := Lib.hid (show (tc == t) = true by rw [beq_iff_eq]; exact heq)
                have heb := HEQ.out
                clear heq
                cases th
                ·
                              go_wp2_with fail
                              go_roundw
                              case rel => exact ⟨q + 1, sc, true, by omega, by go_num, rfl, rfl, by rw [HX2.out, ← HX.out]; simp [HLE.out], by rw [HT2.out, ← HTH.out, HEQ.out]; rfl, HBR.out.alloc hszr2 _, HBW.out.alloc hszr _⟩
                              case measure => simp [intOf]; omega
                ·
                              go_wp2_with fail
                              go_roundw
                              case rel => exact ⟨q + 1, sc, true, by omega, by go_num, rfl, rfl, by rw [HX2.out, ← HX.out]; simp [HLE.out], by rw [HT2.out, ← HTH.out, HEQ.out]; rfl, HBR.out.alloc hszr2 _, HBW.out.alloc hszr _⟩
                              case measure => simp [intOf]; omega
              · have HLE := Lib.hid hle
                have HEQ := Lib.hid (show (tc == t) = false by rw [beq_eq_false_iff_ne]; exact heq)
                have heb := HEQ.out
                clear heq
                cases th
                ·
                              go_wp2_with fail
                              go_roundw
                              case rel => exact ⟨q + 1, sc, false, by omega, by go_num, rfl, rfl, by rw [HX2.out, ← HX.out]; simp [HLE.out], by rw [HT2.out, ← HTH.out, HEQ.out]; rfl, HBR.out.alloc hszr2 _, HBW.out.alloc hszr _⟩
                              case measure => simp [intOf]; omega
                ·
                              go_wp2_with fail
                              go_roundw
                              case rel => exact ⟨q + 1, sc, true, by omega, by go_num, rfl, rfl, by rw [HX2.out, ← HX.out]; simp [HLE.out], by rw [HT2.out, ← HTH.out, HEQ.out]; rfl, HBR.out.alloc hszr2 _, HBW.out.alloc hszr _⟩
                              case measure => simp [intOf]; omega
            · have HLE := Lib.hid hle
              have HEQ := Lib.hid (show (tc == t) = false by rw [beq_eq_false_iff_ne]; omega)
              have heb := HEQ.out
              have hgt : t < tc := by omega
              clear hle
              cases th
              ·
                            go_wp2_with fail
                            go_roundw
                            case rel => exact ⟨q + 1, x, false, by omega, by go_num, rfl, rfl, by rw [HX2.out, ← HX.out]; simp [HLE.out], by rw [HT2.out, ← HTH.out, HEQ.out]; rfl, HBR.out.alloc hszr2 _, HBW.out.alloc hszr _⟩
                            case measure => simp [intOf]; omega
              ·
                            go_wp2_with fail
                            go_roundw
                            case rel => exact ⟨q + 1, x, true, by omega, by go_num, rfl, rfl, by rw [HX2.out, ← HX.out]; simp [HLE.out], by rw [HT2.out, ← HTH.out, HEQ.out]; rfl, HBR.out.alloc hszr2 _, HBW.out.alloc hszr _⟩
                            case measure => simp [intOf]; omega
          · have hxl : x = val v0 l t := by
              have := HX.out
              rwa [List.take_of_length_le (by omega)] at this
            have htl2 : th = hasT l t := by
              have := HTH.out
              rwa [List.take_of_length_le (by omega)] at this
            have HA := Lib.hid (sig_At k n _ m t wr (HG.out.below HBW.out) (HS2.out.below (ext_trans HB26.out HBR.out)) HFM.out)
            rw [atR_eq HSVM.out ht0 ht1, HVI.out, HVT.out, ← hxl] at HA
            have HTL := Lib.hid htl2
            have y0 := (HBR.out.cell (p := ⟨w2.heap.size, 0, none⟩) hl2).trans s0
            have y1 := (HBR.out.cell (p := ⟨w2.heap.size, 1, none⟩) hl2).trans s1
            have y2 := (HBR.out.cell (p := ⟨w2.heap.size, 2, none⟩) hl2).trans s2
            have hql : l.length ≤ q := by omega
            clear hxl htl2
            go_wp2_with fail
            refine HA.out.mono ?_
            rintro e w8 ⟨rfl, hb8⟩
            have HB8 := Lib.hid (ext_trans HBR.out hb8)
            have HW8 := Lib.hid (ext_trans HBW.out hb8)
            have z0 := (hb8.cell (p := ⟨w2.heap.size, 0, none⟩) (cell_lt y0)).trans y0
            have z1 := (hb8.cell (p := ⟨w2.heap.size, 1, none⟩) (cell_lt y0)).trans y1
            have z2 := (hb8.cell (p := ⟨w2.heap.size, 2, none⟩) (cell_lt y0)).trans y2
            clear hb8 y0 y1 y2 HA
            by_cases hk3 : k = 3
            · have hkb : (k == 3) = true := by rw [beq_iff_eq]; exact hk3
              have HH := Lib.hid (HHAS.out hk3 t)
              have HWN := Lib.hid (sig_Window k n _ m t t w8 (HG.out.below HW8.out) (HS2.out.below (ext_trans HB26.out HB8.out)) HFM.out (by omega) (by omega))
              have hwl : (winR k n m t t).length = if th = true then 1 else 0 := by rw [winR_one HSVM.out ht1, HH.out, HTL.out]
              generalize winR k n m t t = r at HWN hwl
              clear hk3
              go_wp2_with fail
              refine HWN.out.mono ?_
              rintro e w9 ⟨v9, rfl, ho9, hb9⟩
              obtain ⟨a9, c9, rfl, -, -⟩ := ho9.shape
              have HB9 := Lib.hid (ext_trans HB8.out hb9)
              clear ho9 hb9 z0 z1 z2
              cases th
              · have hlb : ((r.length : Int) == 1) = false := by rw [beq_eq_false_iff_ne, hwl]; simp
                clear hwl
                go_wp2_with fail
                go_roundw
                case rel => exact ⟨j + 1, by omega, by go_num, HB9.out⟩
                case measure => simp [intOf]; omega
              · have hlb : ((r.length : Int) == 1) = true := by rw [beq_iff_eq, hwl]; simp
                clear hwl
                go_wp2_with fail
                go_roundw
                case rel => exact ⟨j + 1, by omega, by go_num, HB9.out⟩
                case measure => simp [intOf]; omega
            · have hkb : (k == 3) = false := by rw [beq_eq_false_iff_ne]; exact hk3
              clear hk3
              go_wp2_with fail
              go_roundw
              case rel => exact ⟨j + 1, by omega, by go_num, HB8.out⟩
              case measure => simp [intOf]; omega
      · obtain rfl : j = ts.length := by omega
        go_wp2_with fail
        go_ret
        exact ⟨rfl, HB0.out⟩
end Go.Proofs.YtlbcfmhpkcpmaaaGreatDoor
