import Derived.Test.YtbiadennhnokhaaGreatDoorZ22
import Derived.Test.YtbiadennhnokhaaGreatDoorZ15
import Derived.BigRegion
import Derived.BigQuiet
import Derived.Deep.Cut
import Derived.Deep.RegionHeld3
/- builder.clear. -/
namespace Go.Proofs.YtbiadennhnokhaaGreatDoor
open Go.RowKit
set_option linter.unusedSimpArgs false

theorem nz_len (k n : Int) (l : List Ch) : (normalizeR k n l).1.2.2.length ≤ 4096 := by
  unfold normalizeR madeR
  split
  · simp
  split
  · simp
  split
  · simp
  · dsimp only; omega
def clr1 (P : List Gp) (en : Int) (s : Sg) : Sg := if s.1 = 0 then (offF P en s).1 else s
theorem clrL_eq (P : List Gp) (en : Int) (G : List Sg) : clrL P en G = G.map (clr1 P en) := rfl
theorem countL_snoc (A : List Sg) (s : Sg) : countL (A ++ [s]) = countL A + s.2.2.length := by simp [countL]
theorem set3_row {W : World} {b : Nat} {z0 z1 z2 : Value} (h : OwnRow W b [z0, z1, z2]) (u0 u1 u2 : Value) : OwnRow (((W.setCell ⟨b, 0, none⟩ u0).setCell ⟨b, 1, none⟩ u1).setCell ⟨b, 2, none⟩ u2) b [u0, u1, u2] :=
  ((h.set (j := 0) (by simp) u0).set (j := 1) (by simp) u1).set (j := 2) (by simp) u2
set_option maxHeartbeats 3200000 in
set_option maxRecDepth 100000 in
theorem tb_clear (w W : World) (t u : Tr) (p q : TP) (h : BI w t p u q W) (hgl : Glob w) (hf : ∀ s ∈ u.G, Fit s.2.2 ∧ s.2.2.length ≤ 100000 ∧ Fit (offL (vi s.1 s.2.1) (fun t => (atR s.1 s.2.1 s.2.2 t).1) u.en u.P s.2.2)) (hl2 : u.G.length ≤ 1000) (hlp : u.P.length ≤ 1000)
    (hp : ∀ g ∈ u.P, g.2 ≤ 1099511627777) :
    Calls Tryz.prog 58 #[.pointer (some ⟨w.heap.size, 0, none⟩)] W fun e W' => StepP w t p (clearF u.P u.en u.G) { u with G := clrL u.P u.en u.G } e W' := by
  have HI := Lib.hid h
  have HF := Lib.hid hf
  have HP := Lib.hid hp
  have c15 := h.x.cell (j := 15) rfl
  have c16 := h.x.cell (j := 16) rfl
  obtain ⟨ga, gc, eg⟩ := h.vgk
  obtain ⟨pa, pc, ep, -, -⟩ := (SlR.of_own h.r).shape
  have hML := h.ml
  obtain ⟨n, hn⟩ : ∃ n, q.M.length = n := ⟨_, rfl⟩
  have hn2 : n ≤ 1000 := by rw [← hn, hML]; exact hl2
  have HN := Lib.hid (show u.G.length = n by rw [← hML]; exact hn)
  rw [eg, hn] at c15
  rw [ep] at c16
  rw [hn] at eg
  have HEG := Lib.hid eg
  have HMN := Lib.hid hn
  clear h hf hp hML hn eg hl2 ep
  by_cases h16 : 16 < u.P.length
  · have HR := Lib.hid (show (9 : Int) = clearF u.P u.en u.G by unfold clearF; rw [if_pos h16])
    have hb : (16 : Int) < (u.P.length : Int) := by omega
    clear h16
    go_enter Tryz.func58, Tryz.ntmps58
    go_wp2_with fail
    go_ret
    exact ⟨ret_int' HR.out, HI.out.b, fun h => by rw [← HR.out] at h; cases h⟩
  · have HCF := Lib.hid (show clearF u.P u.en u.G = if clrE u.P u.en u.G ≠ 0 then clrE u.P u.en u.G else if 4096 < countL (clrL u.P u.en u.G) then 9 else 0 by unfold clearF; rw [if_neg h16])
    have hb : ¬ (16 : Int) < (u.P.length : Int) := by omega
    clear h16
    go_enter Tryz.func58, Tryz.ntmps58
    go_wp2_with fail
    clear hb
    go_loopw [21, 3] (fun i c_ wr => ∃ k : Nat, k ≤ n ∧ i = .int .i64 k ∧ c_ = .int .i64 (countL (clrL u.P u.en (u.G.take k)) : Int) ∧ countL (clrL u.P u.en (u.G.take k)) ≤ k * 100000 ∧ clrE u.P u.en (u.G.drop k) = clrE u.P u.en u.G ∧ ∃ q', BI w t p { u with G := clrL u.P u.en (u.G.take k) ++ u.G.drop k } q' wr ∧ q'.vg = .slice ga n gc) (fun i _ _ => n - (intOf i).toNat)
    case atStart => exact ⟨0, Nat.zero_le _, rfl, rfl, Nat.zero_le _, rfl, q, HI.out, HEG.out⟩
    case round =>
      obtain ⟨k, hk, rfl, rfl, hct, hgo, q', hi, heg⟩ := hrel
      have HGO := Lib.hid hgo
      have HI2 := Lib.hid hi
      have HEG2 := Lib.hid heg
      clear hgo hi heg c15 c16
      by_cases hlt : k < n
      · have hku : k < u.G.length := by rw [HN.out]; exact hlt
        have hml := HI2.out.ml
        have hnl : (clrL u.P u.en (u.G.take k)).length = k := by rw [clrL_eq, List.length_map, List.length_take, HN.out]; omega
        have hul : (clrL u.P u.en (u.G.take k) ++ u.G.drop k).length = n := by
          rw [List.length_append, List.length_drop, HN.out, hnl]; omega
        have hmn : q'.M.length = n := by rw [hml]; exact hul
        have hkm : k < q'.M.length := by rw [hmn]; exact hlt
        have hMk : q'.M[k].1 = u.G[k] := by
          have h1 : (q'.M.map Prod.fst)[k]? = some q'.M[k].1 := by rw [List.getElem?_map, List.getElem?_eq_getElem hkm]; rfl
          rw [HI2.out.m] at h1
          dsimp only at h1
          rw [List.getElem?_append_right (by omega), hnl, Nat.sub_self, List.getElem?_drop, Nat.add_zero, List.getElem?_eq_getElem hku] at h1
          exact (Option.some.inj h1).symm
        have hsplit : q'.M = q'.M.take k ++ (q'.M[k].1, q'.M[k].2) :: q'.M.drop (k + 1) := by
          rw [← List.drop_eq_getElem_cons hkm, List.take_append_drop]
        obtain ⟨g, c, eg2, hg1, hg2, s0, s1, s2, s3⟩ := HI2.out.sg hkm
        have hck : (q'.M[k].1, q'.M[k].2) ∈ p.M ∨ wr.ownsRow (w.heap.size + 2) 53 2 q'.M[k].2 q'.M[k].1.2.2.length (chs q'.M[k].1.2.2) := HI2.out.c _ (List.getElem_mem hkm)
        have eg3 := HEG2.out
        rw [eg2] at eg3
        injection eg3 with eg3 _ eg4
        subst eg3 eg4
        have HEQ := Lib.hid eg2
        have hlow : w.heap.size < wr.heap.size := HI2.out.lt
        have hlow2 := HI2.out.lt2
        have hA : (q'.M.take k).length = k := by rw [List.length_take]; omega
        have hAm : (q'.M.take k).map Prod.fst = clrL u.P u.en (u.G.take k) := by
          rw [List.map_take, HI2.out.m]; dsimp only; rw [List.take_append_of_le_length (by omega), List.take_of_length_le (by omega)]
        have hDm : (q'.M.drop (k + 1)).map Prod.fst = u.G.drop (k + 1) := by
          rw [List.map_drop, HI2.out.m]; dsimp only; rw [List.drop_append, hnl, List.drop_of_length_le (by omega), List.nil_append, List.drop_drop, show k + (k + 1 - k) = k + 1 by omega]
        have HNR := Lib.hid (firstE_drop (f := fun s : Sg => if s.1 = 0 then (offF u.P u.en s).2 else 0) hku)
        have htk : clrL u.P u.en (u.G.take (k + 1)) = clrL u.P u.en (u.G.take k) ++ [clr1 u.P u.en u.G[k]] := by
          rw [List.take_succ_eq_append_getElem hku, clrL_eq, List.map_append]; rfl
        have HCT := Lib.hid (show countL (clrL u.P u.en (u.G.take (k + 1))) = countL (clrL u.P u.en (u.G.take k)) + (clr1 u.P u.en u.G[k]).2.2.length by rw [htk, countL_snoc])
        have HGK := Lib.hid (fun (y : Sg) (v : Value) (hy : y = clr1 u.P u.en u.G[k]) => show (q'.M.take k ++ (y, v) :: q'.M.drop (k + 1)).map Prod.fst = clrL u.P u.en (u.G.take (k + 1)) ++ u.G.drop (k + 1) by
          rw [List.map_append, List.map_cons, hAm, hDm, htk, hy]
          simp)
        obtain ⟨hfk, hfl, hfT⟩ := HF.out _ (List.getElem_mem hku)
        rw [hMk] at s0 s1 s3 hsplit hck
        have HSP := Lib.hid hsplit
        have HAK := Lib.hid hA
        generalize u.G[k] = x at *
        obtain ⟨kd, wd, cl⟩ := x
        dsimp only at s0 s1 s2 s3 hfk hfl hfT hck
        generalize q'.M[k].2 = vx at *
        obtain ⟨xa, xc, rfl, -, -⟩ := s3.shape
        have hls := hfk.1
        have HBX := Lib.hid (show Below wr.heap.size wr (wr.alloc (.cells #[.int .i64 kd, .int .i64 wd, .slice xa cl.length xc] 45)) from (Below.refl _ _).alloc (Nat.le_refl _) _)
        have HXF := Lib.hid (OwnRow.fresh wr #[.int .i64 kd, .int .i64 wd, .slice xa cl.length xc] 45)
        have HI5 := Lib.hid (HI2.out.next HBX.out)
        have HCK := Lib.hid hck
        have hw5 : wr.heap.size < (wr.alloc (.cells #[.int .i64 kd, .int .i64 wd, .slice xa cl.length xc] 45)).heap.size := by simp
        clear hmn hkm hku hul hml hMk hsplit eg2 hAm hDm hnl hck hA htk
        by_cases hkd : kd = 0
        · subst hkd
          have HOF := Lib.hid (tb_off w _ t _ p q' HI5.out hgl 0 wd (.slice xa cl.length xc) cl (s3.below HBX.out) hfk hlp hfl HP.out hfT)
          obtain ⟨⟨⟨ky, wy, ly⟩, cy⟩, hny⟩ : ∃ r, r = offF u.P u.en (0, wd, cl) := ⟨_, rfl⟩
          have hll : ly.length ≤ 4096 := by
            have := nz_len (0 : Int) wd (offL (vi 0 wd) (fun t => (atR 0 wd cl t).1) u.en u.P cl)
            rw [show normalizeR 0 wd (offL (vi 0 wd) (fun t => (atR 0 wd cl t).1) u.en u.P cl) = offF u.P u.en (0, wd, cl) from rfl, ← hny] at this
            exact this
          dsimp only at HOF
          rw [← hny] at HOF
          have HYE := Lib.hid (show (ky, wy, ly) = clr1 u.P u.en (0, wd, cl) by unfold clr1; rw [if_pos rfl, ← hny])
          have hnr := HNR.out
          rw [← hny] at hnr
          simp only [if_pos] at hnr
          have HNR2 := Lib.hid hnr
          clear hny hfT s3 hnr
          go_wp2_with fail
          refine HOF.out.mono ?_
          rintro e w6 ⟨v6, rfl, ho6, hb6⟩
          dsimp only at ho6 ⊢
          obtain ⟨va, vc, rfl, -, -⟩ := (SlR.of_own ho6).shape
          have HX6a := Lib.hid (HXF.out.below hb6 hw5)
          have hO6 := ownsRow_base (base' := wr.heap.size + 1) ho6 hw5
          have HB6 := Lib.hid (HBX.out.trans (hb6.mono HBX.out.size))
          have hwz6 : wr.heap.size < w6.heap.size := Nat.lt_of_lt_of_le hw5 hb6.size
          have HB7 := Lib.hid (HB6.out.alloc HB6.out.size (.cells #[.int .i64 ky, .int .i64 wy, .slice va ly.length vc] 45))
          have hba : Below w6.heap.size w6 (w6.alloc (.cells #[.int .i64 ky, .int .i64 wy, .slice va ly.length vc] 45)) := (Below.refl _ _).alloc (Nat.le_refl _) _
          have HX7 := Lib.hid (HX6a.out.below hba hwz6)
          have HY7 := Lib.hid (OwnRow.fresh w6 #[.int .i64 ky, .int .i64 wy, .slice va ly.length vc] 45)
          have HO7 := Lib.hid (below_own hO6 hba)
          clear ho6 hb6 hO6 hba HOF
          by_cases hcy : cy = 0
          · subst hcy
            have HG2 := Lib.hid (show clrE u.P u.en (u.G.drop (k + 1)) = clrE u.P u.en u.G by
              rw [← HGO.out]; have := HNR2.out; rw [if_neg (by simp)] at this; exact this.symm)
            have x0 := HX7.out.cell (j := 0) rfl
            have x1 := HX7.out.cell (j := 1) rfl
            have x2 := HX7.out.cell (j := 2) rfl
            have f0 := HX7.out.free (j := 0) (by simp)
            have f1 := HX7.out.free (j := 1) (by simp)
            have f2 := HX7.out.free (j := 2) (by simp)
            have y0 := HY7.out.cell (j := 0) rfl
            have y1 := HY7.out.cell (j := 1) rfl
            have y2 := HY7.out.cell (j := 2) rfl
            have HX6 := Lib.hid (set3_row HX7.out (.int .i64 ky) (.int .i64 wy) (.slice va ly.length vc))
            have HL6 := Lib.hid (((HB7.out.setCell (p := ⟨wr.heap.size, 0, none⟩) (Nat.le_refl _) (.int .i64 ky)).setCell (p := ⟨wr.heap.size, 1, none⟩) (Nat.le_refl _) (.int .i64 wy)).setCell (p := ⟨wr.heap.size, 2, none⟩) (Nat.le_refl _) (.slice va ly.length vc))
            have HOV := Lib.hid (show ((ky, wy, ly), Value.slice va ly.length vc) ∈ p.M ∨ _ from Or.inr (ownsRow_base (base' := w.heap.size + 2) (ownsRow_setCell_below (ownsRow_setCell_below (ownsRow_setCell_below HO7.out (a := ⟨wr.heap.size, 0, none⟩) (Nat.lt_succ_self _) (.int .i64 ky)) (a := ⟨wr.heap.size, 1, none⟩) (Nat.lt_succ_self _) (.int .i64 wy)) (a := ⟨wr.heap.size, 2, none⟩) (Nat.lt_succ_self _) (.slice va ly.length vc)) (by omega)))
            have HI6 := Lib.hid (HI2.out.next HL6.out)
            go_upto_region 11 with fail
            generalize w6.alloc (.cells #[.int .i64 ky, .int .i64 wy, .slice va ly.length vc] 45) = w7 at *
            go_upto_region 12 with fail
            clear x0 x1 x2 f0 f1 f2 y0 y1 y2
            generalize ((w7.setCell ⟨wr.heap.size, 0, none⟩ (.int .i64 ky)).setCell ⟨wr.heap.size, 1, none⟩ (.int .i64 wy)).setCell ⟨wr.heap.size, 2, none⟩ (.slice va ly.length vc) = w8 at *
            have HFZ := Lib.hid (fun o => own_frozen (by have := HI6.out.g; rw [HEQ.out] at this; exact this) o : ∀ o, (w8).frozen? ⟨g, o, none⟩ = false)
            have c15 := HI6.out.x.cell (j := 15) rfl
            rw [HEG2.out] at c15
            have e0 := HX6.out.cell (j := 0) rfl
            have e1 := HX6.out.cell (j := 1) rfl
            have e2 := HX6.out.cell (j := 2) rfl
            have z0 := HFZ.out (k * 3)
            have z1 := HFZ.out (k * 3 + 1)
            have z2 := HFZ.out (k * 3 + 2)
            have s0 := (HL6.out.cell (p := ⟨g, k * 3, none⟩) hg2).trans s0
            have s1 := (HL6.out.cell (p := ⟨g, k * 3 + 1, none⟩) hg2).trans s1
            have s2 := (HL6.out.cell (p := ⟨g, k * 3 + 2, none⟩) hg2).trans s2
            have hg6 : g < (w8).heap.size := Nat.lt_of_lt_of_le hg2 HL6.out.size
            have HFIN := HI6.out.drew.put3 (y := (ky, wy, ly)) (v' := (.slice va ly.length vc)) HSP.out HEQ.out (HOV.out.imp id (fun h => h.drew))
            rw [HAK.out] at HFIN
            have hgk := HGK.out (ky, wy, ly) ((.slice va ly.length vc)) HYE.out
            rw [hgk] at HFIN
            have HFIN := Lib.hid HFIN
            have HXT := Lib.hid ((((HX6.out).other (a := ⟨g, k * 3, none⟩) (by show g ≠ _; omega) (.int .i64 ky)).other (a := ⟨g, k * 3 + 1, none⟩) (by show g ≠ _; omega) (.int .i64 wy)).other (a := ⟨g, k * 3 + 2, none⟩) (by show g ≠ _; omega) ((.slice va ly.length vc)))
            have HC2 := Lib.hid (show countL (clrL u.P u.en (u.G.take (k + 1))) = countL (clrL u.P u.en (u.G.take k)) + (ly).length by rw [HCT.out, ← HYE.out])
            clear hgk
            go_wp2_with fail
            go_region
            clear c15 s0 s1 s2 e0 e1 e2 z0 z1 z2
            have t2 := HXT.out.cell (j := 2) rfl
            obtain ⟨cc, hcc⟩ : ∃ cc, cc = countL (clrL u.P u.en (u.G.take k)) := ⟨_, rfl⟩
            rw [← hcc] at HC2 hct ⊢
            have hcb : cc ≤ 100000000 := by omega
            go_wp2_with fail
            go_roundw
            case rel => exact ⟨k + 1, hlt, by go_num, by rw [HC2.out]; go_num, by rw [HC2.out]; omega, HG2.out, _, HFIN.out, HEG2.out⟩
            case measure => simp [intOf]; omega
          · have bcy : (cy == 0) = false := by simpa using hcy
            have HR := Lib.hid (show cy = clearF u.P u.en u.G by
              have h1 : cy = clrE u.P u.en u.G := by
                rw [← HGO.out]; have := HNR2.out; rw [if_pos hcy] at this; exact this.symm
              rw [HCF.out, ← h1, if_pos hcy])
            have HI7 := Lib.hid (HI2.out.next HB7.out)
            clear s0 s1 s2
            go_wp2_with fail
            go_ret
            exact ⟨ret_int' HR.out, HI7.out.b, fun h => absurd (HR.out.trans h) hcy⟩
        · have bkd : (kd == 0) = false := by simpa using hkd
          have HYE := Lib.hid (show (kd, wd, cl) = clr1 u.P u.en (kd, wd, cl) by unfold clr1; rw [if_neg hkd])
          have HG2 := Lib.hid (show clrE u.P u.en (u.G.drop (k + 1)) = clrE u.P u.en u.G by
            rw [← HGO.out]; have := HNR.out; simp [hkd] at this; exact this.symm)
          have HI6 := HI5
          have HX6 := HXF
          have HL6 := HBX
          have HOV := Lib.hid (HCK.out.imp id (fun h => below_own h HBX.out))
          clear hfT s3
          go_wp2_with fail
          generalize wr.alloc (.cells #[.int .i64 kd, .int .i64 wd, .slice xa cl.length xc] 45) = w6 at *
          have HFZ := Lib.hid (fun o => own_frozen (by have := HI6.out.g; rw [HEQ.out] at this; exact this) o : ∀ o, (w6).frozen? ⟨g, o, none⟩ = false)
          have c15 := HI6.out.x.cell (j := 15) rfl
          rw [HEG2.out] at c15
          have e0 := HX6.out.cell (j := 0) rfl
          have e1 := HX6.out.cell (j := 1) rfl
          have e2 := HX6.out.cell (j := 2) rfl
          have z0 := HFZ.out (k * 3)
          have z1 := HFZ.out (k * 3 + 1)
          have z2 := HFZ.out (k * 3 + 2)
          have s0 := (HL6.out.cell (p := ⟨g, k * 3, none⟩) hg2).trans s0
          have s1 := (HL6.out.cell (p := ⟨g, k * 3 + 1, none⟩) hg2).trans s1
          have s2 := (HL6.out.cell (p := ⟨g, k * 3 + 2, none⟩) hg2).trans s2
          have hg6 : g < (w6).heap.size := Nat.lt_of_lt_of_le hg2 HL6.out.size
          have HFIN := HI6.out.drew.put3 (y := (kd, wd, cl)) (v' := (.slice xa cl.length xc)) HSP.out HEQ.out (HOV.out.imp id (fun h => h.drew))
          rw [HAK.out] at HFIN
          have hgk := HGK.out (kd, wd, cl) ((.slice xa cl.length xc)) HYE.out
          rw [hgk] at HFIN
          have HFIN := Lib.hid HFIN
          have HXT := Lib.hid ((((HX6.out).other (a := ⟨g, k * 3, none⟩) (by show g ≠ _; omega) (.int .i64 kd)).other (a := ⟨g, k * 3 + 1, none⟩) (by show g ≠ _; omega) (.int .i64 wd)).other (a := ⟨g, k * 3 + 2, none⟩) (by show g ≠ _; omega) ((.slice xa cl.length xc)))
          have HC2 := Lib.hid (show countL (clrL u.P u.en (u.G.take (k + 1))) = countL (clrL u.P u.en (u.G.take k)) + (cl).length by rw [HCT.out, ← HYE.out])
          clear hgk
          go_wp2_with fail
          go_region
          clear c15 s0 s1 s2 e0 e1 e2 z0 z1 z2
          have t2 := HXT.out.cell (j := 2) rfl
          obtain ⟨cc, hcc⟩ : ∃ cc, cc = countL (clrL u.P u.en (u.G.take k)) := ⟨_, rfl⟩
          rw [← hcc] at HC2 hct ⊢
          have hcb : cc ≤ 100000000 := by omega
          go_wp2_with fail
          go_roundw
          case rel => exact ⟨k + 1, hlt, by go_num, by rw [HC2.out]; go_num, by rw [HC2.out]; omega, HG2.out, _, HFIN.out, HEG2.out⟩
          case measure => simp [intOf]; omega
      · obtain rfl : k = n := by omega
        have hfin := HI2.out
        have hct2 := hct
        rw [List.take_of_length_le (by rw [HN.out]; exact Nat.le_refl _), List.drop_of_length_le (by rw [HN.out]; exact Nat.le_refl _), List.append_nil] at hfin
        rw [List.take_of_length_le (by rw [HN.out]; exact Nat.le_refl _)] at hct2 ⊢
        have HI3 := Lib.hid hfin
        have HE0 := Lib.hid (show clrE u.P u.en u.G = 0 by rw [← HGO.out, List.drop_of_length_le (by rw [HN.out]; exact Nat.le_refl _)]; rfl)
        have hcf := HCF.out
        rw [HE0.out, if_neg (by simp)] at hcf
        clear hfin
        obtain ⟨cc, hcc⟩ : ∃ cc, cc = countL (clrL u.P u.en u.G) := ⟨_, rfl⟩
        rw [← hcc] at hct2 hcf ⊢
        by_cases hc4 : 4096 < cc
        · have hb4 : (4096 : Int) < (cc : Int) := by omega
          rw [if_pos hc4] at hcf
          have HR := Lib.hid hcf
          clear hc4 hcf
          go_wp2_with fail
          go_ret
          exact ⟨ret_int' HR.out.symm, HI3.out.b, fun h => by rw [HR.out] at h; cases h⟩
        · have hb4 : ¬ (4096 : Int) < (cc : Int) := by omega
          rw [if_neg hc4] at hcf
          have HR := Lib.hid hcf
          clear hc4 hcf
          go_wp2_with fail
          go_ret
          exact ⟨ret_int' HR.out.symm, HI3.out.b, fun _ => ⟨q', HI3.out⟩⟩
end Go.Proofs.YtbiadennhnokhaaGreatDoor
/- The stable sort of variables: its comparison, swapRange. -/
namespace Go.Proofs.YtbiadennhnokhaaGreatDoor
open Go.RowKit
set_option linter.unusedSimpArgs false

set_option maxHeartbeats 1600000 in
set_option maxRecDepth 100000 in
theorem ss_swap (base g c a b m : Nat) (l X A Y B Z : List Vr) (w : World) (hg : SO base g l.length c w l) (hl : l = X ++ (A ++ (Y ++ (B ++ Z)))) (hA : A.length = m) (hB : B.length = m) (ha : X.length = a) (hb : X.length + A.length + Y.length = b) (hn : l.length ≤ 1000) :
    Calls Tryz.prog 307 #[.slice (some ⟨g, 0, none⟩) l.length c, .int .i64 a, .int .i64 b, .int .i64 m, (.func (.func 166) #[] #[])] w fun e w' =>
      e = .returned (.tuple #[]) ∧ SO base g l.length c w' (X ++ (B ++ (Y ++ (A ++ Z)))) ∧ Below base w w' := by
  have hlen : l.length = X.length + A.length + Y.length + B.length + Z.length := by rw [hl]; simp only [List.length_append]; omega
  have hlo := hg.lo
  have HCAP := Lib.hid hg.cap
  have H0 := Lib.hid (show SO base g l.length c w (swpd X A Y B Z 0) by rw [swpd_zero, ← hl]; exact hg)
  have hAB : A.length = B.length := by omega
  generalize hN : l.length = n at *
  clear hg hl
  go_enter Tryz.func307, Tryz.ntmps307
  go_wp2_with fail
  go_loopw [10] (fun i wr => ∃ j : Nat, j ≤ m ∧ i = .int .i64 j ∧ SO base g n c wr (swpd X A Y B Z j) ∧ Below base w wr) (fun i _ => m - (intOf i).toNat)
  case atStart => exact ⟨0, Nat.zero_le _, rfl, H0.out, Below.refl _ _⟩
  case round =>
    obtain ⟨j, hj, rfl, hs, hbw⟩ := hrel
    have HB := Lib.hid hbw
    clear hbw
    by_cases hlt : j < m
    · obtain ⟨X1, Y1, Z1, e1, e2, e3, e4⟩ := swpd_at (X := X) (Y := Y) (Z := Z) hAB (i := j) (by omega)
      rw [e3] at hs
      have HE4 := Lib.hid e4
      generalize A[j]'(by omega) = x at hs HE4
      generalize B[j]'(by omega) = y at hs HE4
      have HSW := Lib.hid (hs.swap (p := a + j) (q := b + j) (by omega) (by omega))
      have hz1 := hs.at
      rw [show X1 ++ x :: (Y1 ++ y :: Z1) = (X1 ++ x :: Y1) ++ y :: Z1 by simp] at hs
      have hz2 := hs.at
      rw [List.length_append, List.length_cons, show X1.length + (Y1.length + 1) = b + j by omega] at hz2
      rw [show X1.length = a + j by omega] at hz1
      obtain ⟨p0, p1, p2, p3, p4, p5, p6⟩ := hz1
      obtain ⟨q0, q1, q2, q3, q4, q5, q6⟩ := hz2
      have HS := Lib.hid hs
      have hfz := own_frozen hs
      have hw1 : IntKind.i64.wrap ((a : Int) + (j : Int)) = (a : Int) + (j : Int) := IntWalk.i64_in _ (by omega)
      have hw2 : IntKind.i64.wrap ((b : Int) + (j : Int)) = (b : Int) + (j : Int) := IntWalk.i64_in _ (by omega)
      have hw3 : IntKind.i64.wrap ((j : Int) + 1) = (j : Int) + 1 := IntWalk.i64_in _ (by omega)
      have h1 : (0 : Int) ≤ (a : Int) + (j : Int) := by omega
      have h2 : (0 : Int) ≤ (b : Int) + (j : Int) := by omega
      have h3 : (a : Int) + (j : Int) < (n : Int) := by omega
      have h4 : (b : Int) + (j : Int) < (n : Int) := by omega
      have h5 : ((a : Int) + (j : Int)).toNat = a + j := by omega
      have h6 : ((b : Int) + (j : Int)).toNat = b + j := by omega
      have HE := Lib.hid (And.intro e1 e2)
      have hab : ¬ a = b := by omega
      have hba : ¬ b = a := by omega
      clear hs e1 e2 e3 e4 hAB hA hB ha hb hlen
      go_upto_region 3 with fail
      go_region
      clear p0 p1 p2 p3 p4 p5 p6 q0 q1 q2 q3 q4 q5 q6 hw1 hw2 h1 h2 h3 h4 h5 h6 hab hba hfz
      go_wp2_with fail
      go_roundw
      case rel => exact ⟨j + 1, by omega, by go_num, by rw [HE4.out]; exact HSW.out.1.drew, (HB.out.trans HSW.out.2).drew⟩
      case measure => simp [intOf]; omega
    · obtain rfl : j = m := by omega
      have HF := Lib.hid (show SO base g n c wr (X ++ (B ++ (Y ++ (A ++ Z)))) by rw [← hA, swpd_all hAB] at hs; exact hs)
      clear hs
      go_wp2_with fail
      go_end0
      exact ⟨rfl, HF.out, HB.out⟩
end Go.Proofs.YtbiadennhnokhaaGreatDoor
/- The stable sort of variables: rotate. -/
namespace Go.Proofs.YtbiadennhnokhaaGreatDoor
open Go.RowKit
set_option linter.unusedSimpArgs false

set_option maxHeartbeats 1600000 in
set_option maxRecDepth 100000 in
theorem ss_rotate (base g c a m b : Nat) (l P A B S : List Vr) (w : World) (hg : SO base g l.length c w l) (hl : l = P ++ (A ++ (B ++ S))) (hp : P.length = a) (hA : a + A.length = m) (hB : m + B.length = b) (h0 : 0 < A.length) (h1 : 0 < B.length) (hn : l.length ≤ 1000) :
    Calls Tryz.prog 288 #[.slice (some ⟨g, 0, none⟩) l.length c, .int .i64 a, .int .i64 m, .int .i64 b, (.func (.func 166) #[] #[])] w fun e w' =>
      e = .returned (.tuple #[]) ∧ SO base g l.length c w' (P ++ (B ++ (A ++ S))) ∧ Below base w w' := by
  have hlen : l.length = P.length + A.length + B.length + S.length := by rw [hl]; simp only [List.length_append]; omega
  have hR : Rot m A.length B.length l (P ++ (B ++ (A ++ S))) := ⟨P, A, B, S, hl, rfl, by omega, rfl, rfl⟩
  have HT := Lib.hid (show (P ++ (B ++ (A ++ S))).length = l.length by rw [hlen]; simp only [List.length_append]; omega)
  have e1 : IntKind.i64.wrap ((m : Int) - (a : Int)) = (A.length : Int) := by rw [IntWalk.i64_in _ (by omega)]; omega
  have e2 : IntKind.i64.wrap ((b : Int) - (m : Int)) = (B.length : Int) := by rw [IntWalk.i64_in _ (by omega)]; omega
  have h2 : m ≤ 1000 := by omega
  have h3 : B.length ≤ 1000 := by omega
  have h4 : A.length ≤ m := by omega
  have HR0 := Lib.hid hR
  have H0 := Lib.hid hg
  generalize hN : l.length = n at *
  generalize P ++ (B ++ (A ++ S)) = t at *
  generalize A.length = i0 at *
  generalize B.length = j0 at *
  clear hg hl hlen hR hp hA hB
  go_enter Tryz.func288, Tryz.ntmps288
  go_wp2_with fail
  clear e1 e2
  go_loopw [10, 11] (fun vi vj wr => ∃ (i j : Nat) (l2 : List Vr), vi = .int .i64 i ∧ vj = .int .i64 j ∧ 0 < i ∧ 0 < j ∧ i ≤ m ∧ j ≤ 1000 ∧ Rot m i j l2 t ∧ SO base g n c wr l2 ∧ Below base w wr) (fun vi vj _ => (intOf vi).toNat + (intOf vj).toNat)
  case atStart => exact ⟨i0, j0, l, rfl, rfl, h0, h1, h4, h3, HR0.out, H0.out, Below.refl _ _⟩
  case round =>
    obtain ⟨i, j, l2, rfl, rfl, hi, hj, him, hj1, hr, hs, hb⟩ := hrel
    have HB := Lib.hid hb
    have hl2 := hs.len
    clear hb
    by_cases hij : i = j
    · subst hij
      obtain ⟨X, A', B', Z, f1, f2, f3, f4, f5⟩ := hr.last
      have hne : ((i : Int) != (i : Int)) = false := by simp
      have hw1 : IntKind.i64.wrap ((m : Int) - (i : Int)) = ((m - i : Nat) : Int) := by rw [IntWalk.i64_in _ (by omega)]; omega
      have HS := Lib.hid (ss_swap base g c (m - i) m i l2 X A' [] B' Z wr (by rw [hl2]; exact hs) f1 f3 f4 (by omega) (by simp; omega) (by omega))
      rw [hl2, ← f5] at HS
      clear hr hs f1 f2 f3 f4 f5 hl2
      go_wp2_with fail
      refine HS.out.mono ?_
      rintro e w1 ⟨rfl, hs1, hb1⟩
      have H1 := Lib.hid hs1
      have HB1 := Lib.hid (HB.out.trans hb1)
      clear hs1 hb1
      go_wp2_with fail
      go_end0
      exact ⟨rfl, H1.out, HB1.out⟩
    · have hne : ((i : Int) != (j : Int)) = true := by rw [bne_iff_ne]; omega
      have hw1 : IntKind.i64.wrap ((m : Int) - (i : Int)) = ((m - i : Nat) : Int) := by rw [IntWalk.i64_in _ (by omega)]; omega
      by_cases hlt : j < i
      · obtain ⟨X, A', Y, B', Z, f1, f2, f3, f4, f5, f6⟩ := hr.more hlt
        have hd : decide ((j : Int) < (i : Int)) = true := by rw [decide_eq_true_iff]; omega
        have hw2 : IntKind.i64.wrap ((i : Int) - (j : Int)) = ((i - j : Nat) : Int) := by rw [IntWalk.i64_in _ (by omega)]; omega
        have HS := Lib.hid (ss_swap base g c (m - i) m j l2 X A' Y B' Z wr (by rw [hl2]; exact hs) f1 f3 f4 (by omega) (by omega) (by omega))
        rw [hl2] at HS
        have HR := Lib.hid f6
        clear hr hs f1 f2 f3 f4 f5 f6 hl2 hij
        go_wp2_with fail
        refine HS.out.mono ?_
        rintro e w1 ⟨rfl, hs1, hb1⟩
        have H1 := Lib.hid hs1
        have HB1 := Lib.hid (HB.out.trans hb1)
        clear hs1 hb1
        go_wp2_with fail
        go_roundw
        case rel => exact ⟨i - j, j, _, rfl, rfl, by omega, hj, by omega, hj1, HR.out, H1.out, HB1.out⟩
        case measure => simp [intOf]; omega
      · have hlt2 : i < j := by omega
        obtain ⟨X, A', Y, B', Z, f1, f2, f3, f4, f5, f6⟩ := hr.less hlt2
        have hd : decide ((j : Int) < (i : Int)) = false := by rw [decide_eq_false_iff_not]; omega
        have hw2 : IntKind.i64.wrap ((j : Int) - (i : Int)) = ((j - i : Nat) : Int) := by rw [IntWalk.i64_in _ (by omega)]; omega
        have hw3 : IntKind.i64.wrap ((m : Int) + (j : Int)) = (m : Int) + (j : Int) := IntWalk.i64_in _ (by omega)
        have hw4 : IntKind.i64.wrap ((m : Int) + (j : Int) - (i : Int)) = (m : Int) + (j : Int) - (i : Int) := IntWalk.i64_in _ (by omega)
        have HS := Lib.hid (ss_swap base g c (m - i) (m + j - i) i l2 X A' Y B' Z wr (by rw [hl2]; exact hs) f1 f3 f4 (by omega) (by omega) (by omega))
        rw [hl2, show ((m + j - i : Nat) : Int) = (m : Int) + (j : Int) - (i : Int) by omega] at HS
        have HR := Lib.hid f6
        clear hr hs f1 f2 f3 f4 f5 f6 hl2 hij
        go_wp2_with fail
        refine HS.out.mono ?_
        rintro e w1 ⟨rfl, hs1, hb1⟩
        have H1 := Lib.hid hs1
        have HB1 := Lib.hid (HB.out.trans hb1)
        clear hs1 hb1
        go_wp2_with fail
        go_roundw
        case rel => exact ⟨i, j - i, _, rfl, rfl, hi, by omega, him, by omega, HR.out, H1.out, HB1.out⟩
        case measure => simp [intOf]; omega
end Go.Proofs.YtbiadennhnokhaaGreatDoor
