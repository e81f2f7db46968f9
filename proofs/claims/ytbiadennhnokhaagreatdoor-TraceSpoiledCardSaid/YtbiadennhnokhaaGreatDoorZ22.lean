import Derived.Test.YtbiadennhnokhaaGreatDoorZ20
import Derived.Test.YtbiadennhnokhaaGreatDoorZ21
import Derived.Test.YtbiadennhnokhaaGreatDoorZ11
import Derived.Lib.AppendZeros
import Derived.Laws.AppendOwnNone
import Derived.Deep.AppendLies
/- builder.times: the gaps. -/
namespace Go.Proofs.YtbiadennhnokhaaGreatDoor
open Go.RowKit
set_option linter.unusedSimpArgs false

theorem BI.grown {w W V : World} {t u : Tr} {p q : TP} (h : BI w t p u q W) (hvp : q.vp.ownBlock = none) {v : Value} {n : Nat} {xs : List Value} (ho : W.ownsRow (w.heap.size + 2) 57 2 v n xs) (hg : W.grownBy V v.ownBlock) : BI w t p u q V :=
  { x := h.x.grown hg h.lt (fun e => by have := (own_lo ho e.symm).1; omega)
    s := h.s.kept hg (own_apart h.s ho (by decide))
    v := h.v.kept hg (own_apart h.v ho (by decide))
    g := h.g.kept hg (own_apart h.g ho (by decide))
    c := fun x hx => (h.c x hx).imp id (fun h0 => h0.kept hg (own_apart h0 ho (by decide)))
    r := h.r.kept hg (Or.inl hvp)
    m := h.m
    b := h.b.grown hg h.b.size (fun k e => by have := (own_lo ho e).1; omega)
    k := h.k.grown hg h.lt2 (fun e => by have := (own_lo ho e.symm).1; omega)
    l := h.l }
theorem BI.hit {w W : World} {t u : Tr} {p q : TP} (h : BI w t p u q W) (hvp : q.vp.ownBlock = none) {g c n : Nat} {xs : List Value} (ho : W.ownsRow (w.heap.size + 2) 57 2 (.slice (some ⟨g, 0, none⟩) n c) n xs) (o : Nat) (z : Value) : BI w t p u q (W.setCell ⟨g, o, none⟩ z) := by
  have hlo := own_lo ho (g := g) rfl
  exact
  { x := h.x.other (by show g ≠ _; omega) _
    s := ownsRow_setCell_other (a := ⟨g, o, none⟩) h.s (own_ne h.s ho (by decide) rfl) _
    v := ownsRow_setCell_other (a := ⟨g, o, none⟩) h.v (own_ne h.v ho (by decide) rfl) _
    g := ownsRow_setCell_other (a := ⟨g, o, none⟩) h.g (own_ne h.g ho (by decide) rfl) _
    c := fun x hx => (h.c x hx).imp id (fun h0 => ownsRow_setCell_other (a := ⟨g, o, none⟩) h0 (own_ne h0 ho (by decide) rfl) _)
    r := ownsRow_setCell_other (a := ⟨g, o, none⟩) h.r (by rw [hvp]; intro e; cases e) _
    m := h.m
    b := h.b.setCell (by show w.heap.size ≤ g; omega) _
    k := h.k.other (by show g ≠ _; omega) _
    l := h.l }
/-- what lies in memory while the gaps are taken -/
structure GpI (w : World) (t : Tr) (p : TP) (u : Tr) (q : TP) (acc : List Gp) (v : Value) (W : World) : Prop where
  i : BI w t p u q W
  o : W.ownsRow (w.heap.size + 2) 57 2 v acc.length (gps acc)
theorem GpI.next {w W V : World} {t u : Tr} {p q : TP} {acc : List Gp} {v : Value} (h : GpI w t p u q acc v W) (hb : Below W.heap.size W V) : GpI w t p u q acc v V := ⟨h.i.next hb, below_own h.o hb⟩
theorem gps_set (A : List Gp) (h : Gp) (m : Int) : (gps (A ++ [h])).set (A.length * 2 + 1) (.int .i64 m) = gps (A ++ [(h.1, m)]) := by
  rw [gps_app, gps_app, List.set_append, if_neg (by rw [gps_len]; omega), gps_len, show A.length * 2 + 1 - 2 * A.length = 1 by omega]
  rfl
theorem GpI.hit {w W : World} {t u : Tr} {p q : TP} {A : List Gp} {x : Gp} {g c : Nat} (h : GpI w t p u q (A ++ [x]) (.slice (some ⟨g, 0, none⟩) (A.length + 1) c) W) (hvp : q.vp.ownBlock = none) (m : Int) :
    GpI w t p u q (A ++ [(x.1, m)]) (.slice (some ⟨g, 0, none⟩) (A.length + 1) c) (W.setCell ⟨g, A.length * 2 + 1, none⟩ (.int .i64 m)) := by
  have ho := h.o
  have hl : (A ++ [x]).length = A.length + 1 := by simp
  have hl2 : (A ++ [(x.1, m)]).length = A.length + 1 := by simp
  rw [hl] at ho
  refine ⟨h.i.hit hvp ho _ _, ?_⟩
  rw [hl2, ← gps_set]
  exact own_set ho _ _
def TimesP (w : World) (t : Tr) (p : TP) (u : Tr) (r : Option (List Gp × Int)) (e : Ending) (W : World) : Prop := match r with
  | none => StepP w t p 2 u e W
  | some r => StepP w t p 0 { u with P := r.1, en := r.2 } e W
set_option maxHeartbeats 3200000 in
set_option maxRecDepth 100000 in
theorem tb_gaps (w W : World) (t u : Tr) (p q : TP) (h : BI w t p u q W) (ht : TrM w t p) (hvp : q.vp.ownBlock = none) (hl : t.P.length ≤ 1000) (hl2 : u.G.length ≤ 1000) (hw : ∀ s ∈ u.G, s.2.2.length ≤ 100000) :
    Calls Tryz.prog 57 #[.pointer (some ⟨w.heap.size, 0, none⟩)] W (TimesP w t p u (timesF t u.G)) := by
  have HI := Lib.hid h
  have HT := Lib.hid ht
  have c7 := h.x.cell (j := 7) rfl
  have c8 := h.x.cell (j := 8) rfl
  obtain ⟨pa, pc, ep, -, -⟩ := ht.q.shape
  rw [ep] at c7
  have HEP := Lib.hid ep
  clear h ht ep
  by_cases hen : t.en < 0 ∨ 1099511627776 < t.en
  · have HR := Lib.hid (show timesF t u.G = none by unfold timesF; rw [if_pos hen])
    rw [HR.out]
    obtain ⟨en, hee⟩ : ∃ en, t.en = en := ⟨_, rfl⟩
    rw [hee] at c8 hen
    by_cases h0 : en < 0
    · go_enter Tryz.func57, Tryz.ntmps57
      go_wp2_with fail
      go_ret
      exact ⟨rfl, HI.out.b, fun h => by cases h⟩
    · have h1 : (1099511627776 : Int) < en := by omega
      clear hen
      go_enter Tryz.func57, Tryz.ntmps57
      go_wp2_with fail
      go_ret
      exact ⟨rfl, HI.out.b, fun h => by cases h⟩
  · obtain ⟨en0, hee⟩ : ∃ en, t.en = en := ⟨_, rfl⟩
    have hen1 : 0 ≤ en0 := by omega
    have hen2 : en0 ≤ 1099511627776 := by omega
    have HTF := Lib.hid (show timesF t u.G = (gapsGo 0 [] t.en t.P).map fun r => (r.1, lastT u.G r.2) by unfold timesF; rw [if_neg hen])
    rw [hee] at c8
    have HEE := Lib.hid hee
    have hz1 : ¬ en0 < 0 := by omega
    have hz2 : ¬ (1099511627776 : Int) < en0 := by omega
    have HO0 := Lib.hid (World.ownsRow_nil W (w.heap.size + 2) 57 2)
    obtain ⟨i0, hi, iz0, iz1, iz2⟩ := info_parts (P := Tryz.prog) gp_info
    clear hen hee
    go_enter Tryz.func57, Tryz.ntmps57
    go_wp2_with fail
    clear hz1 hz2
    go_loopw [29, 3, 4, 5] (fun i e_ b_ v5 wr => ∃ (k : Nat) (b en : Int) (acc : List Gp), k ≤ t.P.length ∧ i = .int .i64 k ∧ e_ = .int .i64 en ∧ b_ = .int .i64 b ∧ acc.length ≤ k ∧ gapsGo b acc en (t.P.drop k) = gapsGo 0 [] t.en t.P ∧ 0 ≤ en ∧ en ≤ 1099511627776 ∧ GpI w t p u q acc v5 wr) (fun i _ _ _ _ => t.P.length - (intOf i).toNat)
    case atStart => exact ⟨0, 0, en0, [], Nat.zero_le _, rfl, rfl, rfl, Nat.zero_le _, by rw [HEE.out]; rfl, hen1, hen2, HI.out, HO0.out⟩
    case round =>
      obtain ⟨k, b, en, acc, hk, rfl, rfl, rfl, hal, hgo, he1, he2, hc⟩ := hrel
      have HGO := Lib.hid hgo
      have HC := Lib.hid hc
      clear hgo hc c7 c8
      by_cases hlt : k < t.P.length
      · have hsq := (HT.out.q).below HC.out.i.b
        rw [HEP.out] at hsq
        obtain ⟨gb, go_, rfl, hcell⟩ := hsq.gps hlt
        have HDR := Lib.hid (List.drop_eq_getElem_cons hlt)
        generalize t.P[k] = x at *
        obtain ⟨g1, g2⟩ := x
        have d0 : wr.cell? ⟨gb, go_ + k * 2, none⟩ = some (.int .i64 g1) := hcell 0 _ rfl
        have d1 : wr.cell? ⟨gb, go_ + k * 2 + 1, none⟩ = some (.int .i64 g2) := hcell 1 _ rfl
        have HBX := Lib.hid (show Below wr.heap.size wr (wr.alloc (.cells #[.int .i64 g1, .int .i64 g2] 57)) from (Below.refl _ _).alloc (Nat.le_refl _) _)
        clear hcell hsq
        by_cases h1 : g1 < b
        · have b1 : decide (g1 < b) = true := by simpa using h1
          have HR := Lib.hid (show timesF t u.G = none by
            rw [HTF.out, ← HGO.out, HDR.out, gapsGo_cons, if_pos (Or.inl h1)]; rfl)
          rw [HR.out]
          have HI5 := Lib.hid (HC.out.next HBX.out).i
          clear HR HGO HDR
          go_wp2_with fail
          go_ret
          exact ⟨rfl, HI5.out.b, fun h => by cases h⟩
        · have b1 : decide (g1 < b) = false := by simpa using h1
          by_cases h2 : g1 < 0
          · have b2 : decide (g1 < 0) = true := by simpa using h2
            have HR := Lib.hid (show timesF t u.G = none by
              rw [HTF.out, ← HGO.out, HDR.out, gapsGo_cons, if_pos (Or.inr (Or.inl h2))]; rfl)
            rw [HR.out]
            have HI5 := Lib.hid (HC.out.next HBX.out).i
            clear HR HGO HDR
            go_wp2_with fail
            go_ret
            exact ⟨rfl, HI5.out.b, fun h => by cases h⟩
          · have b2 : decide (g1 < 0) = false := by simpa using h2
            by_cases h3 : g2 ≤ g1
            · have b3 : decide (g2 ≤ g1) = true := by simpa using h3
              have HR := Lib.hid (show timesF t u.G = none by
                rw [HTF.out, ← HGO.out, HDR.out, gapsGo_cons, if_pos (Or.inr (Or.inr (Or.inl h3)))]; rfl)
              rw [HR.out]
              have HI5 := Lib.hid (HC.out.next HBX.out).i
              clear HR HGO HDR
              go_wp2_with fail
              go_ret
              exact ⟨rfl, HI5.out.b, fun h => by cases h⟩
            · have b3 : decide (g2 ≤ g1) = false := by simpa using h3
              by_cases h4 : 1099511627777 < g2
              · have b4 : decide ((1099511627777 : Int) < g2) = true := by simpa using h4
                have HR := Lib.hid (show timesF t u.G = none by
                  rw [HTF.out, ← HGO.out, HDR.out, gapsGo_cons, if_pos (Or.inr (Or.inr (Or.inr h4)))]; rfl)
                rw [HR.out]
                have HI5 := Lib.hid (HC.out.next HBX.out).i
                clear HR HGO HDR
                go_wp2_with fail
                go_ret
                exact ⟨rfl, HI5.out.b, fun h => by cases h⟩
              · have b4 : decide ((1099511627777 : Int) < g2) = false := by simpa using h4
                have HG2 := Lib.hid (show gapsGo g1 (addGap acc (g1, g2)) (max en (g2 - 1)) (t.P.drop (k + 1)) = gapsGo 0 [] t.en t.P by
                  rw [← HGO.out, HDR.out, gapsGo_cons, if_neg (by omega)])
                have HC5 := Lib.hid (HC.out.next HBX.out)
                have HXF := Lib.hid (OwnRow.fresh wr #[.int .i64 g1, .int .i64 g2] 57)
                have hw5 : wr.heap.size < (wr.alloc (.cells #[.int .i64 g1, .int .i64 g2] 57)).heap.size := by simp
                rcases snoc_or acc with rfl | ⟨A, ⟨h1_, h2_⟩, rfl⟩
                · obtain ⟨ua, uc, rfl, -, -⟩ := (SlR.of_own HC.out.o).shape
                  have e0 := HXF.out.cell (j := 0) rfl
                  have e1 := HXF.out.cell (j := 1) rfl
                  rw [show ([] : List Gp).length = 0 from rfl] at *
                  go_wp2_with fail
                  generalize wr.alloc (.cells #[.int .i64 g1, .int .i64 g2] 57) = w5 at *
                  go_quiet (fail)
                  have hb6 : Below w5.heap.size w5 (w5.drewN nq) := below_dn (Below.refl _ _) nq
                  have HC6 := Lib.hid (HC5.out.next hb6)
                  have HX6 := Lib.hid (HXF.out.below hb6 hw5)
                  have hw6 : wr.heap.size < (w5.drewN nq).heap.size := Nat.lt_of_lt_of_le hw5 hb6.size
                  clear hb6 e0 e1
                  generalize w5.drewN nq = w6 at *
                  have e0 := HX6.out.cell (j := 0) rfl
                  have e1 := HX6.out.cell (j := 1) rfl
                  have HNW := Lib.hid (World.news_of_block (w := w6.alloc (.cells #[.int .i64 g1, .int .i64 g2] 57)) (cs := #[.int .i64 g1, .int .i64 g2]) (t := 57) (fr := (0, 0)) (by exact heap_alloc_new _ _))
                  have HBA := Lib.hid (show Below w6.heap.size w6 (w6.alloc (.cells #[.int .i64 g1, .int .i64 g2] 57)) from (Below.refl _ _).alloc (Nat.le_refl _) _)
                  have HC7 := Lib.hid (HC6.out.next HBA.out)
                  have HX7 := Lib.hid (HX6.out.below HBA.out hw6)
                  have hlow := HC6.out.i.lt2
                  have HLO := Lib.hid (fun gq (e : Value.ownBlock (.slice ua 0 uc) = some gq) => (own_lo HC.out.o e).2)
                  have hml : ([] : List Gp).length ≤ 1000 := by first | (simp; done) | (simp; omega)
                  go_wp2_with (at_builtin; refine wpList_append_own_at _ rfl _ _ 25 rfl (w.heap.size + 2) 57 i0 (.agg #[.int .i64 0, .int .i64 0]) 2 16 Tryz.underlying25 hi iz0 iz1 iz2 rfl (by decide) _ _ _ rfl HC7.out.o ⟨w6.heap.size, 0, none⟩ 1 1 [.int .i64 g1, .int .i64 g2] rfl rfl HNW.out (by simp [Value.oneCell']) (by unfold maxLen; omega) (by omega) (by simp; omega) ?_)
                  intro v8 w8 ho8 hg8 _ _
                  have HC8 := Lib.hid (show GpI w t p u q ([(g1, g2)]) v8 w8 from ⟨HC7.out.i.grown hvp HC7.out.o hg8, by have := ho8; simpa [gps_app, gps, gpC] using this⟩)
                  have HX8 := Lib.hid (HX7.out.grown hg8 (Nat.lt_of_lt_of_le hw6 HBA.out.size) (fun e => by have := HLO.out _ e.symm; omega))
                  have HG3 := HG2.out
                  rw [addGap_nil, ← addGap_nil (g1, g2), addGap_nil] at HG3
                  have HG3 := Lib.hid HG3
                  clear ho8 hg8 e0 e1 HC7 HX7 HC6 HX6
                  have e1 := HX8.out.cell (j := 1) rfl
                  go_wp2_with fail
                  go_roundw
                  case rel => exact ⟨k + 1, g1, max en (g2 - 1), [(g1, g2)], hlt, by go_num, by go_num, rfl, by first | (simp; done) | (simp; omega), HG3.out, by omega, by omega, HC8.out⟩
                  case measure => simp [intOf]; omega
                · have ho5 := HC5.out.o
                  have hlA : (A ++ [(h1_, h2_)]).length = A.length + 1 := by simp
                  rw [hlA] at ho5 hal
                  obtain ⟨g, c, rfl, -, hg1, hg2, hat⟩ := own_at ho5 (by omega)
                  have k1 := hat (A.length * 2 + 1) (.int .i64 h2_) (by rw [gps_app, List.getElem?_append_right (by rw [gps_len]; omega), gps_len, show A.length * 2 + 1 - 2 * A.length = 1 by omega]; rfl)
                  have z1 := own_frozen ho5 (A.length * 2 + 1)
                  have e0 := HXF.out.cell (j := 0) rfl
                  have e1 := HXF.out.cell (j := 1) rfl
                  clear hat ho5
                  by_cases hh : g1 ≤ h2_
                  · have bh : decide (g1 ≤ h2_) = true := by simpa using hh
                    have HCH := Lib.hid (fun (n : Nat) (m : Int) => (show GpI w t p u q (A ++ [(h1_, h2_)]) (.slice (some ⟨g, 0, none⟩) (A.length + 1) c) _ from HC5.out.next (below_dn (Below.refl _ _) n)).hit (A := A) hvp m)
                    go_wp2_with fail
                    generalize wr.alloc (.cells #[.int .i64 g1, .int .i64 g2] 57) = w5 at *
                    go_quiet (fail)
                    go_wp2_with fail
                    go_region
                    have HC8 := Lib.hid (HCH.out (nq + 1) (max h2_ g2))
                    have HX8 := Lib.hid ((HXF.out.below (below_dn (Below.refl _ _) (nq + 1)) hw5).other (a := ⟨g, A.length * 2 + 1, none⟩) (by show g ≠ wr.heap.size; have := (own_lo HC.out.o (g := g) rfl).2; omega) (.int .i64 (max h2_ g2)))
                    have HG3 := HG2.out
                    rw [addGap_snoc, if_pos hh] at HG3
                    have HG3 := Lib.hid HG3
                    clear e0 e1 k1 z1 HCH
                    generalize (w5.drewN (nq + 1)).setCell ⟨g, A.length * 2 + 1, none⟩ (.int .i64 (max h2_ g2)) = w8 at *
                    have e1 := HX8.out.cell (j := 1) rfl
                    go_wp2_with fail
                    go_roundw
                    case rel => exact ⟨k + 1, g1, max en (g2 - 1), A ++ [(h1_, max h2_ g2)], hlt, by go_num, by go_num, rfl, by simp; omega, HG3.out, by omega, by omega, HC8.out⟩
                    case measure => simp [intOf]; omega
                  · have bh : decide (g1 ≤ h2_) = false := by simpa using hh
                    go_wp2_with fail
                    generalize wr.alloc (.cells #[.int .i64 g1, .int .i64 g2] 57) = w5 at *
                    go_quiet (fail)
                    have hb6 : Below w5.heap.size w5 (w5.drewN nq) := below_dn (Below.refl _ _) nq
                    have HC6 := Lib.hid (HC5.out.next hb6)
                    have HX6 := Lib.hid (HXF.out.below hb6 hw5)
                    have hw6 : wr.heap.size < (w5.drewN nq).heap.size := Nat.lt_of_lt_of_le hw5 hb6.size
                    clear hb6 e0 e1
                    generalize w5.drewN nq = w6 at *
                    have e0 := HX6.out.cell (j := 0) rfl
                    have e1 := HX6.out.cell (j := 1) rfl
                    have HNW := Lib.hid (World.news_of_block (w := w6.alloc (.cells #[.int .i64 g1, .int .i64 g2] 57)) (cs := #[.int .i64 g1, .int .i64 g2]) (t := 57) (fr := (0, 0)) (by exact heap_alloc_new _ _))
                    have HBA := Lib.hid (show Below w6.heap.size w6 (w6.alloc (.cells #[.int .i64 g1, .int .i64 g2] 57)) from (Below.refl _ _).alloc (Nat.le_refl _) _)
                    have HC7 := Lib.hid (HC6.out.next HBA.out)
                    have HX7 := Lib.hid (HX6.out.below HBA.out hw6)
                    have hlow := HC6.out.i.lt2
                    have HLO := Lib.hid (fun gq (e : Value.ownBlock (.slice (some ⟨g, 0, none⟩) (A.length + 1) c) = some gq) => (own_lo HC.out.o e).2)
                    have hml : ((A ++ [(h1_, h2_)]) : List Gp).length ≤ 1000 := by first | (simp; done) | (simp; omega)
                    go_wp2_with (at_builtin; refine wpList_append_own_at _ rfl _ _ 25 rfl (w.heap.size + 2) 57 i0 (.agg #[.int .i64 0, .int .i64 0]) 2 16 Tryz.underlying25 hi iz0 iz1 iz2 rfl (by decide) _ _ _ rfl HC7.out.o ⟨w6.heap.size, 0, none⟩ 1 1 [.int .i64 g1, .int .i64 g2] rfl rfl HNW.out (by simp [Value.oneCell']) (by unfold maxLen; omega) (by omega) (by simp; omega) ?_)
                    intro v8 w8 ho8 hg8 _ _
                    have HC8 := Lib.hid (show GpI w t p u q (A ++ [(h1_, h2_)] ++ [(g1, g2)]) v8 w8 from ⟨HC7.out.i.grown hvp HC7.out.o hg8, by have := ho8; simpa [gps_app, gps, gpC] using this⟩)
                    have HX8 := Lib.hid (HX7.out.grown hg8 (Nat.lt_of_lt_of_le hw6 HBA.out.size) (fun e => by have := HLO.out _ e.symm; omega))
                    have HG3 := HG2.out
                    rw [addGap_snoc, if_neg (show ¬ g1 ≤ h2_ by omega)] at HG3
                    have HG3 := Lib.hid HG3
                    clear ho8 hg8 e0 e1 HC7 HX7 HC6 HX6
                    have e1 := HX8.out.cell (j := 1) rfl
                    go_wp2_with fail
                    go_roundw
                    case rel => exact ⟨k + 1, g1, max en (g2 - 1), A ++ [(h1_, h2_)] ++ [(g1, g2)], hlt, by go_num, by go_num, rfl, by first | (simp; done) | (simp; omega), HG3.out, by omega, by omega, HC8.out⟩
                    case measure => simp [intOf]; omega
      · obtain rfl : k = t.P.length := by omega
        have HTF2 := Lib.hid (show timesF t u.G = some (acc, lastT u.G en) by
          rw [HTF.out, ← HGO.out, List.drop_length]; rfl)
        have c15 := HC.out.i.x.cell (j := 15) rfl
        obtain ⟨ga, gc, eg⟩ := HC.out.i.vgk
        have hML := HC.out.i.ml
        obtain ⟨n, hn⟩ : ∃ n, q.M.length = n := ⟨_, rfl⟩
        have hn2 : n ≤ 1000 := by rw [← hn, hML]; exact hl2
        have HN := Lib.hid (show u.G.length = n by rw [← hML]; exact hn)
        rw [eg, hn] at c15
        rw [hn] at eg
        have HEG := Lib.hid eg
        have HMN := Lib.hid hn
        have HM := Lib.hid HC.out.i.m
        clear hML hn eg hl2 HGO HTF hlt
        obtain ⟨ua, uc, rfl, -, -⟩ := (SlR.of_own HC.out.o).shape
        have hal2 : acc.length ≤ 1000 := by omega
        go_wp2_with fail
        go_loopw [101, 3] (fun i e_ wr2 => ∃ (k : Nat) (e2 : Int), k ≤ n ∧ i = .int .i64 k ∧ e_ = .int .i64 e2 ∧ lastT (u.G.drop k) e2 = lastT u.G en ∧ GpI w t p u q acc (.slice ua acc.length uc) wr2) (fun i _ _ => n - (intOf i).toNat)
        case atStart => exact ⟨0, en, Nat.zero_le _, rfl, rfl, rfl, HC.out⟩
        case round =>
          obtain ⟨k, e2, hk2, rfl, rfl, hla, hc2⟩ := hrel
          have HLA := Lib.hid hla
          have HC2 := Lib.hid hc2
          clear hla hc2 c15
          by_cases hlt : k < n
          · have hku : k < u.G.length := by rw [HN.out]; exact hlt
            have hkm : k < q.M.length := by rw [HMN.out]; exact hlt
            have hMk : q.M[k].1 = u.G[k] := by
              have h1 : (q.M.map Prod.fst)[k]? = some q.M[k].1 := by rw [List.getElem?_map, List.getElem?_eq_getElem hkm]; rfl
              rw [HM.out, List.getElem?_eq_getElem hku] at h1
              exact (Option.some.inj h1).symm
            obtain ⟨g, c, eg2, hg1, hg2, s0, s1, s2, s3⟩ := HC2.out.i.sg hkm
            have eg3 := HEG.out
            rw [eg2] at eg3
            injection eg3 with eg3 _ eg4
            subst eg3 eg4
            have hww := hw _ (List.getElem_mem hku)
            have HDR := Lib.hid (List.drop_eq_getElem_cons hku)
            rw [hMk] at s0 s1 s3
            generalize u.G[k] = x at *
            obtain ⟨kd, wd, cl⟩ := x
            dsimp only at s0 s1 s2 s3 hww
            generalize q.M[k].2 = vx at *
            obtain ⟨xa, xc, rfl, -, -⟩ := s3.shape
            have HBX := Lib.hid (show Below wr.heap.size wr (wr.alloc (.cells #[.int .i64 kd, .int .i64 wd, .slice xa cl.length xc] 45)) from (Below.refl _ _).alloc (Nat.le_refl _) _)
            have HC3 := Lib.hid (HC2.out.next HBX.out)
            rcases snoc_or cl with rfl | ⟨B, ⟨ct, cv⟩, rfl⟩
            · have HL2 := Lib.hid (show lastT (u.G.drop (k + 1)) e2 = lastT u.G en by rw [← HLA.out, HDR.out]; rfl)
              rw [show ([] : List Ch).length = 0 from rfl] at *
              clear s3
              go_wp2_with fail
              go_roundw
              case rel => exact ⟨k + 1, e2, hlt, by go_num, rfl, HL2.out, HC3.out⟩
              case measure => simp [intOf]; omega
            · have HL2 := Lib.hid (show lastT (u.G.drop (k + 1)) (max e2 ct) = lastT u.G en by rw [← HLA.out, HDR.out]; unfold lastT; rw [List.foldl_cons]; simp)
              obtain ⟨xb, xo, xcap, ev, -, -, hat⟩ := s3.at (by simp)
              injection ev with ev evn evc
              subst ev evc
              clear evn
              have hlB : (B ++ [(ct, cv)]).length = B.length + 1 := by simp
              have d0 : wr.cell? ⟨xb, xo + B.length * 2, none⟩ = some (.int .i64 ct) := by
                refine hat (B.length * 2) _ ?_
                have := (chs_at (B ++ [(ct, cv)]) B.length (by simp)).1
                rw [Nat.mul_comm]
                simpa using this
              rw [hlB] at hww s2 HBX HC3
              have hxb : xb < wr.heap.size := cell_lt d0
              rw [← HBX.out.cell (p := ⟨xb, xo + B.length * 2, none⟩) hxb] at d0
              clear s3 hat
              go_wp2_with fail
              go_roundw
              case rel => exact ⟨k + 1, max e2 ct, hlt, by go_num, by go_num, HL2.out, HC3.out⟩
              case measure => simp [intOf]; omega
          · obtain rfl : k = n := by omega
            have hla := HLA.out
            rw [List.drop_of_length_le (by rw [HN.out]; exact Nat.le_refl _)] at hla
            obtain rfl : e2 = lastT u.G en := hla
            have f16 := HC2.out.i.x.free (j := 16) (by simp [trC])
            have f17 := HC2.out.i.x.free (j := 17) (by simp [trC])
            have c16 := HC2.out.i.x.cell (j := 16) rfl
            have c17 := HC2.out.i.x.cell (j := 17) rfl
            have hbi := HC2.out.i
            have hF := hbi.set (j := 16) (by decide) (.slice ua acc.length uc) (u' := { u with P := acc }) (q' := { q with vp := .slice ua acc.length uc }) rfl (own_box hbi.s _ _) (own_box hbi.v _ _) (own_box hbi.g _ _) (fun x hx => (hbi.c x hx).imp id (fun h => own_box h _ _)) (own_box HC2.out.o _ _) hbi.m
            have HF := Lib.hid (hF.put (j := 17) (by decide) (.int .i64 (lastT u.G en)) (u' := { u with P := acc, en := lastT u.G en }) rfl rfl rfl rfl rfl)
            clear hbi hF
            go_wp2_with fail
            go_ret
            rw [HTF2.out]
            exact ⟨rfl, HF.out.b, fun _ => ⟨_, HF.out⟩⟩
end Go.Proofs.YtbiadennhnokhaaGreatDoor
/- append of a slice that may be nil. -/
namespace Go.Proofs.YtbiadennhnokhaaGreatDoor
open Go.RowKit

/-- append of a slice, nil or not, onto what is owned -/
theorem wpList_append_sl {P : Program} (w : World) {ops : Array Oper} {rest : List Oper} {o : Oper} {a : Act} {Q : Exit → Act → World → Prop} (hgd : o.guard = none) (s x : Operand) (t : TypeId)
    (ho : o.op = .call { callee := .builtin .append, args := #[s, x], argTypes := #[t, t] })
    (base : Nat) (e : TypeId) (i : TypeInfo) (z : Value) (size bytes : Nat) (ht : P.underlying t = some (.slice e)) (hi : P.info? e = some i) (hz : i.zero = some z)
    (hsize : i.size = size) (hby : i.bytes = bytes) (hzs : z.cells.size = size) (hsz : 0 < size)
    (v : Value) (n : Nat) (xs : List Value) (hs : a.eval s = v) (hown : w.ownsRow base e size v n xs)
    (ad : Option Addr) (m c : Nat) (news : List Value) (hx : a.eval x = .slice ad m c) (hsl : SlR w (.slice ad m c) m news) (hl : news.length = m * size) (h1 : ∀ u ∈ news, u.oneCell' = true)
    (h63 : n + m ≤ maxLen) (hbytes : (n + m) * bytes ≤ 140737488355328) (hbase : base ≤ w.heap.size)
    (h : ∀ v' w', w'.ownsRow base e size v' (n + m) (xs ++ news) → w.grownBy w' v.ownBlock → wpList P ops Q rest (a.put o.dst v') w') : wpList P ops Q (o :: rest) a w := by
  cases ad with
  | none =>
    obtain ⟨a', cap', hv, hc1, hc2, hc3, -⟩ := hsl
    injection hv with e1 _ e3
    have h0 := hc3 e1.symm
    have hm : m = 0 := by omega
    have hc : c = 0 := by omega
    subst hm hc
    have hn : news = [] := List.length_eq_zero_iff.1 (by omega)
    subst hn
    refine wpList_append_own_none hgd s x t ho base e i size ht hi v n xs hs hown hx (h v w ?_ (World.grownBy.refl _ _))
    simpa using hown
  | some ad =>
    exact wpList_append_own w hgd s x t ho base e i z size bytes ht hi hz hsize hby hzs hsz v n xs hs hown ad m c news hx hl
      (hsl.news (fun h0 => by subst h0; exact List.length_eq_zero_iff.1 (by omega))) h1 h63 hbytes hbase (fun v' w' h2 h3 _ => h v' w' h2 h3)

theorem wp_append_sl {P : Program} (w : World) {o : Oper} {a : Act} {K : Act → World → Prop} {Q : Exit → Act → World → Prop} (s x : Operand) (t : TypeId)
    (ho : o.op = .call { callee := .builtin .append, args := #[s, x], argTypes := #[t, t] })
    (base : Nat) (e : TypeId) (i : TypeInfo) (z : Value) (size bytes : Nat) (ht : P.underlying t = some (.slice e)) (hi : P.info? e = some i) (hz : i.zero = some z)
    (hsize : i.size = size) (hby : i.bytes = bytes) (hzs : z.cells.size = size) (hsz : 0 < size)
    (v : Value) (n : Nat) (xs : List Value) (hs : a.eval s = v) (hown : w.ownsRow base e size v n xs)
    (ad : Option Addr) (m c : Nat) (news : List Value) (hx : a.eval x = .slice ad m c) (hsl : SlR w (.slice ad m c) m news) (hl : news.length = m * size) (h1 : ∀ u ∈ news, u.oneCell' = true)
    (h63 : n + m ≤ maxLen) (hbytes : (n + m) * bytes ≤ 140737488355328) (hbase : base ≤ w.heap.size)
    (h : ∀ a' c' w', w'.ownsRow base e size (.slice a' (n + m) c') (n + m) (xs ++ news) → w.grownBy w' v.ownBlock → K (a.put o.dst (.slice a' (n + m) c')) w') : o.wp P a w K Q := by
  have h' : ∀ v' w', w'.ownsRow base e size v' (n + m) (xs ++ news) → w.grownBy w' v.ownBlock → K (a.put o.dst v') w' := fun v' w' h2 h3 => by
    obtain ⟨a', c', rfl, -, -⟩ := (SlR.of_own h2).shape
    exact h a' c' w' h2 h3
  cases ad with
  | none =>
    obtain ⟨a', cap', hv, hc1, hc2, hc3, -⟩ := hsl
    injection hv with e1 _ e3
    have h0 := hc3 e1.symm
    have hm : m = 0 := by omega
    have hc : c = 0 := by omega
    subst hm hc
    have hn : news = [] := List.length_eq_zero_iff.1 (by omega)
    subst hn
    have hrun := run_append_owned_none (P := P) (w := w) base t o.type e i size ht hi v n xs hown
    unfold Oper.wp
    simp [execOp, ho, resolve, invoke, builtin, hs, hx, hrun, Result.andThen]
    exact h' v w (by simpa using hown) (World.grownBy.refl _ _)
  | some ad =>
    exact wp_append_own w s x t ho base e i z size bytes ht hi hz hsize hby hzs hsz v n xs hs hown ad m c news hx hl
      (hsl.news (fun h0 => by subst h0; exact List.length_eq_zero_iff.1 (by omega))) h1 h63 hbytes hbase (fun v' w' h2 h3 _ => h' v' w' h2 h3)
theorem step_append_sl {P : Program} (w : World) {ops : Array Oper} {o : Oper} {a : Act} {K : Act → World → Prop} {Q : Exit → Act → World → Prop} {E : Prop} (hgd : o.guard = none) (s x : Operand) (t : TypeId)
    (ho : o.op = .call { callee := .builtin .append, args := #[s, x], argTypes := #[t, t] })
    (base : Nat) (e : TypeId) (i : TypeInfo) (z : Value) (size bytes : Nat) (ht : P.underlying t = some (.slice e)) (hi : P.info? e = some i) (hz : i.zero = some z)
    (hsize : i.size = size) (hby : i.bytes = bytes) (hzs : z.cells.size = size) (hsz : 0 < size)
    (v : Value) (n : Nat) (xs : List Value) (hs : a.eval s = v) (hown : w.ownsRow base e size v n xs)
    (ad : Option Addr) (m c : Nat) (news : List Value) (hx : a.eval x = .slice ad m c) (hsl : SlR w (.slice ad m c) m news) (hl : news.length = m * size) (h1 : ∀ u ∈ news, u.oneCell' = true)
    (h63 : n + m ≤ maxLen) (hbytes : (n + m) * bytes ≤ 140737488355328) (hbase : base ≤ w.heap.size)
    (h : ∀ a' c' w', w'.ownsRow base e size (.slice a' (n + m) c') (n + m) (xs ++ news) → w.grownBy w' v.ownBlock → K (a.put o.dst (.slice a' (n + m) c')) w') :
    if Region.wanted o (yielded ops a.tmps) = true then Oper.wp P o a w K Q else E := by
  have hw : Region.wanted o (yielded ops a.tmps) = true := by simp [Region.wanted, hgd]
  rw [if_pos hw]
  exact wp_append_sl w s x t ho base e i z size bytes ht hi hz hsize hby hzs hsz v n xs hs hown ad m c news hx hsl hl h1 h63 hbytes hbase h

theorem chs_cut (l : List Ch) (i j : Nat) (hij : i ≤ j) : chs l = chs (l.take i) ++ (chs ((l.take j).drop i) ++ chs (l.drop j)) := by
  rw [← chs_append, ← chs_append]
  congr 1
  have h3 : l.take i = (l.take j).take i := by rw [List.take_take, Nat.min_eq_left hij]
  rw [h3, ← List.append_assoc, List.take_append_drop, List.take_append_drop]

/-- the cells of a part -/
theorem SlR.sub {w : World} {a : Option Addr} {cap : Nat} {l : List Ch} (h : SlR w (.slice a l.length cap) l.length (chs l)) (i j : Nat) (hij : i ≤ j) (hj : j ≤ l.length) :
    SlR w (.slice (if cap = i then a else a.map (·.add (i * 2))) ((l.take j).drop i).length (cap - i)) ((l.take j).drop i).length (chs ((l.take j).drop i)) := by
  obtain ⟨a', cap', hv, h1, h2, h3, h4⟩ := h
  injection hv with e1 _ e3
  subst e1 e3
  have hl : ((l.take j).drop i).length = j - i := by simp; omega
  refine ⟨_, _, rfl, by omega, by omega, fun h => ?_, fun hn => ?_⟩
  · by_cases hc : cap = i
    · omega
    · rw [if_neg hc] at h
      have := h3 (by simpa using h)
      omega
  · obtain ⟨b, o, rfl, hc⟩ := h4 (by omega)
    refine ⟨b, o + i * 2, by rw [if_neg (by omega)]; show some ((⟨b, o, none⟩ : Addr).add (i * 2)) = _; rw [addr_add], fun x u hx => ?_⟩
    have hx' := (List.getElem?_eq_some_iff.1 hx).1
    have h5 : (chs (l.take i)).length = i * 2 := by rw [chs_len]; simp; omega
    have := hc (i * 2 + x) u (by
      rw [chs_cut l i j hij, List.getElem?_append_right (by omega), h5, Nat.add_sub_cancel_left, List.getElem?_append_left hx']
      exact hx)
    rwa [← Nat.add_assoc] at this

theorem SlR.rest {w : World} {a : Option Addr} {cap : Nat} {l : List Ch} (h : SlR w (.slice a l.length cap) l.length (chs l)) (i : Nat) (hi : i ≤ l.length) :
    SlR w (.slice (if cap = i then a else a.map (·.add (i * 2))) (l.length - i) (cap - i)) (l.length - i) (chs (l.drop i)) := by
  have := h.sub i l.length hi (Nat.le_refl _)
  rw [List.take_length, List.length_drop] at this
  exact this

theorem ch_size (w : World) : (Go.sizeOf 53).run Tryz.prog w = .ok 2 w := by kernel_rfl

/-- 'l[i:]', its value not looked into -/
theorem slice_tail (a : Option Addr) (cap : Nat) (l : List Ch) (i : Nat) (hi : i ≤ l.length) :
    ∃ ad c, (∀ w, (Instr.slice 43 (.slice a l.length cap) (some (.int .i64 (i : Int))) none none).run Tryz.prog w = .ok (.slice ad (l.drop i).length c) w) ∧
      ∀ W, SlR W (.slice a l.length cap) l.length (chs l) → SlR W (.slice ad (l.drop i).length c) (l.drop i).length (chs (l.drop i)) := by
  refine ⟨if cap = i then a else a.map (·.add (i * 2)), cap - i, fun w => ?_, fun W h => ?_⟩
  · have ht : Tryz.prog.underlying 43 = some (.slice 53) := Tryz.underlying43
    have ht' : Tryz.prog.underlying 43 = some (.slice (Tryz.prog.elem 43)) := by simp [Program.elem, ht]
    have he : Tryz.prog.elem 43 = 53 := by simp [Program.elem, ht]
    rw [run_slice_l w 43 a l.length cap ht' .i64 _ (by omega) (by omega), he, ch_size]
    simp only [Result.andThen, sliced, List.length_drop, Int.toNat_natCast]
  · have := h.sub i l.length hi (Nat.le_refl _)
    rw [List.take_length] at this
    exact this

/-- 'l[:i]' -/
theorem slice_head (a : Option Addr) (cap : Nat) (l : List Ch) (i : Nat) (hi : i ≤ l.length) (hc : l.length ≤ cap) :
    ∃ ad c, (∀ w, (Instr.slice 43 (.slice a l.length cap) none (some (.int .i64 (i : Int))) none).run Tryz.prog w = .ok (.slice ad (l.take i).length c) w) ∧
      ∀ W, SlR W (.slice a l.length cap) l.length (chs l) → SlR W (.slice ad (l.take i).length c) (l.take i).length (chs (l.take i)) := by
  refine ⟨if cap = 0 then a else a.map (·.add (0 * 2)), cap - 0, fun w => ?_, fun W h => ?_⟩
  · have ht : Tryz.prog.underlying 43 = some (.slice 53) := Tryz.underlying43
    have ht' : Tryz.prog.underlying 43 = some (.slice (Tryz.prog.elem 43)) := by simp [Program.elem, ht]
    have he : Tryz.prog.elem 43 = 53 := by simp [Program.elem, ht]
    rw [run_slice_h w 43 a l.length cap ht' .i64 _ (by omega) (by omega), he, ch_size]
    simp only [Result.andThen, sliced, List.length_take, Int.toNat_natCast, Nat.sub_zero, Nat.min_eq_left hi]
  · have := h.sub 0 i (Nat.zero_le _) hi
    simpa only [List.drop_zero] using this
end Go.Proofs.YtbiadennhnokhaaGreatDoor
