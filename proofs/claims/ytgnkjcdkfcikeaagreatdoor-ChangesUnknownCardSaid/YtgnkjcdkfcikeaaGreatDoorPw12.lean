import Derived.Test.YtgnkjcdkfcikeaaGreatDoorPw10
import Derived.Test.YtgnkjcdkfcikeaaGreatDoorPw11
namespace Go.Proofs.YtgnkjcdkfcikeaaGreatDoor
open Go.RowKit
set_option linter.unusedSimpArgs false

/-! reading records -/
theorem put_len (s : PS) (r : Rc) : (s.put r).out.length ≤ s.out.length + 1 ∧ (s.put r).wrong.length = s.wrong.length := by
  unfold PS.put
  split
  · exact ⟨Nat.le_succ _, rfl⟩
  · exact ⟨by simp, rfl⟩
theorem prob_len (s : PS) (e : Int) (w : Wd) : (s.prob e w).out.length = s.out.length ∧ (s.prob e w).wrong.length = s.wrong.length + 1 := ⟨rfl, by simp [PS.prob]⟩
def Grew1 (s t : PS) : Prop := t.out.length ≤ s.out.length + 1 ∧ t.wrong.length ≤ s.wrong.length + 1
theorem grew_refl (s : PS) : Grew1 s s := ⟨Nat.le_succ _, Nat.le_succ _⟩
theorem grew_prob (s : PS) (e : Int) (w : Wd) : Grew1 s (s.prob e w) := ⟨by rw [(prob_len s e w).1]; omega, by rw [(prob_len s e w).2]; exact Nat.le_refl _⟩
theorem grew_put (s : PS) (r : Rc) : Grew1 s (s.put r) := ⟨(put_len s r).1, by rw [(put_len s r).2]; omega⟩
theorem grew_time (s : PS) (w : Wd) : Grew1 s (timeP s w) := by
  unfold timeP
  split
  · exact grew_prob { s with skip := true } 3 w
  · split
    · exact grew_prob { s with skip := true } 2 w
    · rename_i t _ _
      exact grew_put { s with skip := false, last := t } (0, t, [], [])
theorem grew_dump (s : PS) (w : Wd) : Grew1 s (dumpP s w) := by
  unfold dumpP
  split
  · have h1 := put_len { s.prob 10 w with opn := true } (4, 0, [], [])
    exact ⟨h1.1, by rw [h1.2]; simp [PS.prob]⟩
  · exact grew_put { s with opn := true } (4, 0, [], [])
theorem grew_turn (s : PS) (w : Wd) (o : Bool) : Grew1 s (turnP s w o) := by
  cases hb : (s.off == o)
  · cases hk : s.skip
    · rw [← turn_go hb hk]
      split
      · have h1 := put_len (((s.prob 10 w).setOpn true).setOff o) (if o = true then 2 else 3, 0, [], [])
        exact ⟨h1.1, by rw [h1.2]; simp [PS.prob, PS.setOpn, PS.setOff]⟩
      · exact grew_put ((s.setOpn true).setOff o) _
    · rw [← turn_sk hb hk]
      split
      · exact grew_prob s 10 w
      · exact grew_refl (s.setOpn true)
  · rw [← turn_al hb]
    exact grew_prob s 10 w
theorem grew_end (s : PS) (w : Wd) : Grew1 s (endP s w) := by
  unfold endP
  split
  · exact grew_refl _
  · exact ⟨Nat.le_succ _, by simp [PS.prob]⟩
theorem grew_change (V : Vals) (K : Bs → Option Dc) (s : PS) (w h : Wd) (code text : Bs) (ks : List Int) : Grew1 s (changeP V K s w h code text ks) := by
  unfold changeP
  split
  · exact grew_refl _
  · split
    · exact grew_prob _ _ _
    · split
      · exact grew_prob _ _ _
      · split
        · exact grew_prob _ _ _
        · split
          · split
            · exact grew_refl _
            · exact grew_prob _ _ _
          · exact grew_put _ _
theorem grew_step (V : Vals) (K : Bs → Option Dc) (s : PS) (w : Wd) (t : List Wd) : Grew1 s (pStep V K s w t).1 := by
  unfold pStep
  split
  · exact grew_prob _ _ _
  · split
    · exact grew_time _ _
    · split
      · split
        · exact grew_dump _ _
        · split
          · exact grew_turn _ _ _
          · split
            · exact grew_turn _ _ _
            · split
              · exact grew_end _ _
              · unfold sectP
                split
                · exact grew_prob _ _ _
                · split
                  · exact grew_refl _
                  · exact grew_prob _ _ _
      · split
        · split
          · split
            · exact grew_refl _
            · exact grew_prob _ _ _
          · exact grew_change _ _ _ _ _ _ _ _
        · split
          · exact grew_prob _ _ _
          · split
            · split
              · exact grew_refl _
              · exact grew_prob _ _ _
            · exact grew_change _ _ _ _ _ _ _ _
theorem own_fresh1 (w : World) (C : Array Value) (T : TypeId) (base size : Nat) (hb : base ≤ w.heap.size) (hC : C.size = size) : (w.alloc (.cells C T)).ownsRow base T size (.slice (some ⟨w.heap.size, 0, none⟩) 1 1) 1 C.toList := by
  refine ⟨by simp [hC], .inr ⟨w.heap.size, 1, C, rfl, hb, heap_alloc_new w _, Nat.le_refl _, by unfold maxLen; decide, by rw [hC, Nat.one_mul], ?_⟩⟩
  rw [Nat.one_mul, List.take_of_length_le (by simp [hC])]
def rdC (w : World) (a : Addr) : Value := (w.cell? a).getD undef
theorem rd_eq {w : World} {a : Addr} {v : Value} (h : w.cell? a = some v) : rdC w a = v := by unfold rdC; rw [h]; rfl
def ParsePost (L : List Dcl) (ws : List Wd) (w : World) (e : Ending) (w' : World) : Prop :=
  ∃ vo vr, e = .returned (.tuple #[vo, vr]) ∧ w'.ownsRow w.heap.size 45 4 vo (parseL cv (L.map Dcl.dc) ws).out.length (recs (parseL cv (L.map Dcl.dc) ws).out) ∧ w'.ownsRow w.heap.size 42 4 vr (parseL cv (L.map Dcl.dc) ws).wrong.length (prbs (parseL cv (L.map Dcl.dc) ws).wrong) ∧ Below w.heap.size w w'
set_option maxHeartbeats 3200000 in
set_option maxRecDepth 100000 in
theorem ch_Parse (v v2 : Value) (ws : List Wd) (L : List Dcl) (w : World) (hs : SlR w v ws.length (wds ws)) (hd : SlR w v2 L.length (dcls L)) (hg : Glob w) (he : GlobE w) (hc : ∀ d ∈ L, d.code.length ≤ 1000) (hl : L.length ≤ 1000) (hw : ws.length ≤ 1000000) (ht : ∀ x ∈ ws, x.1.length ≤ 140737488351232) :
    Calls Tryz.prog 14 #[v, v2] w (ParsePost L ws w) := by
  obtain ⟨a, cap, rfl, -, -⟩ := hs.shape
  have HSG := Lib.hid (ps_signals v2 L w hd hg hc hl)
  have HS := Lib.hid hs
  have HG := Lib.hid hg
  have HE := Lib.hid he
  have HT := Lib.hid ht
  obtain ⟨a2, cap2, rfl, -, -⟩ := hd.shape
  clear hs hd hg he hc ht
  go_enter Tryz.func14, Tryz.ntmps14
  go_wp2_with fail
  refine HSG.out.mono ?_
  rintro e w1 ⟨rfl, hm1, hb1⟩
  have hz1 := hm1.lt
  have hal : Below w1.heap.size w1 (w1.alloc (.cells #[.slice a ws.length cap, .int .i64 0, .map (some w.heap.size), .int .i64 0, .bool false, .bool false, .bool false, .slice none 0 0, .slice none 0 0] 82)) := (Below.refl _ _).alloc (Nat.le_refl _) _
  have ho2 := own_fresh1 w1 #[.slice a ws.length cap, .int .i64 0, .map (some w.heap.size), .int .i64 0, .bool false, .bool false, .bool false, .slice none 0 0, .slice none 0 0] 82 w.heap.size 9 hb1.size rfl
  generalize hw2 : w1.alloc (.cells #[.slice a ws.length cap, .int .i64 0, .map (some w.heap.size), .int .i64 0, .bool false, .bool false, .bool false, .slice none 0 0, .slice none 0 0] 82) = w2 at *
  have HO2 := Lib.hid ho2
  have HM2 := Lib.hid (hm1.below hal hm1.lt)
  have HB2 := Lib.hid (ext_trans hb1 hal)
  have HZ1 := Lib.hid hz1
  clear ho2 hm1 hb1 hal hz1
  go_wp2_with fail
  refine (ps_keywords w1.heap.size w2).mono ?_
  rintro e w3 ⟨rfl, hk3, hb3⟩
  obtain ⟨c, hcd⟩ : ∃ c : PC, c = { wk := w3, w0 := w, B := w1.heap.size, mb := w.heap.size, kb := w2.heap.size, n := L.length, m := 5, F := sigF L, G := kwF w1.heap.size, wa := a, wn := ws.length, wc := cap } := ⟨_, rfl⟩
  have HP0 := Lib.hid (show ParX c (0 : Nat) ps0 (.slice none 0 0) (.slice none 0 0) w3 by
    rw [hcd]
    exact ⟨own_after HO2.out hb3, World.ownsRow_nil _ _ _ _, World.ownsRow_nil _ _ _ _, HM2.out.below hb3 HM2.out.lt, hk3, ext_trans HB2.out hb3, KeepP.refl _ _⟩)
  have HCB := Lib.hid (show c.B = w1.heap.size by rw [hcd])
  have HCK := Lib.hid (show c.kb = w2.heap.size by rw [hcd])
  have HCX := Lib.hid (show ∀ (i : Nat) (s : PS) (vo vr : Value) (W : World), ParX c (i : Int) s vo vr W → s.wrong.length ≤ 1000000 → s.out.length ≤ 1000000 → i < ws.length → CX c L ws i s vo vr W from fun i s vo vr W h h1 h2 h3 => ⟨h, by rw [hcd], by rw [hcd], by rw [hcd]; exact HG.out, by rw [hcd]; exact HE.out, h1, h2, by rw [hcd], hw, h3, by rw [hcd]; exact HS.out, HT.out⟩)
  have HCA := Lib.hid (show c.w0 = w ∧ c.wa = a ∧ c.wc = cap ∧ c.wn = ws.length by rw [hcd]; exact ⟨rfl, rfl, rfl, rfl⟩)
  clear hcd hk3 hb3 hw2
  go_wp2_with fail
  rw [← HCB.out, ← HCK.out]
  go_loopw [21] (fun _ wr => ∃ (n : Nat) (s : PS) (vo vr : Value), n ≤ ws.length ∧ ParX c (n : Int) s vo vr wr ∧ pRun cv (knL cv (L.map Dcl.dc)) s (ws.drop n) = parseL cv (L.map Dcl.dc) ws ∧ s.out.length ≤ n ∧ s.wrong.length ≤ n) (fun _ wr => ws.length - (intOf (rdC wr ⟨c.B, 1, none⟩)).toNat)
  case atStart => exact ⟨0, ps0, _, _, Nat.zero_le _, HP0.out, rfl, Nat.le_refl _, Nat.le_refl _⟩
  case round =>
    obtain ⟨n, s, vo, vr, hn, hp, hr, ho, hwr⟩ := hrel
    have hb := HCA.out.1 ▸ hp.b
    have HR := Lib.hid hr
    have HP := Lib.hid hp
    have HO := Lib.hid (And.intro ho hwr)
    have p1 := hp.row.cell (j := 1) rfl
    have HP1 := Lib.hid p1
    clear hr hp ho hwr
    by_cases hlt : n < ws.length
    · obtain ⟨b, o, rfl, g0, g1, g2, g3⟩ := (HS.out.below hb).wds hlt
      obtain ⟨x, hx⟩ : ∃ x, ws[n] = x := ⟨_, rfl⟩
      have HX := Lib.hid hx
      have HST0 := Lib.hid (show pRun cv (knL cv (L.map Dcl.dc)) (pStep cv (knL cv (L.map Dcl.dc)) s x (ws.drop (n + 1))).1 (pStep cv (knL cv (L.map Dcl.dc)) s x (ws.drop (n + 1))).2 = parseL cv (L.map Dcl.dc) ws by
        rw [← HR.out, List.drop_eq_getElem_cons hlt, pRun_cons, hx])
      have HGR := Lib.hid (grew_step cv (knL cv (L.map Dcl.dc)) s x (ws.drop (n + 1)))
      rw [hx] at g0 g1 g2 g3
      have HLT := Lib.hid hlt
      clear hx hb HR
      obtain ⟨tx, o1, o2, o3⟩ := x
      dsimp only at g0 g1 g2 g3
      have hi1 : (0 : Int) ≤ (n : Int) := by omega
      have hi2 : (n : Int) < (ws.length : Int) := by omega
      cases tx with
      | nil =>
        have hie : (bsB []).toList.isEmpty = true := by rw [ByteArray.toList_eq]; rfl
        go_wp2_with fail
        refine (ps_problem c n s vo vr 3 ([], o1, o2, o3) _ HP.out (by have := HO.out; omega)).mono ?_
        rintro e w9 ⟨rfl, vo9, vr9, h9⟩
        have p1 := h9.row.cell (j := 1) rfl
        have f1 := h9.row.free (j := 1) (by simp [parC])
        have HQ := Lib.hid (show ParX c ((n + 1 : Nat) : Int) (s.prob 3 ([], o1, o2, o3)) vo9 vr9 (w9.setCell ⟨c.B, 1, none⟩ (.int .i64 ((n : Int) + 1))) by rw [Int.natCast_succ]; exact h9.at_ _)
        have HST := Lib.hid (show pRun cv (knL cv (L.map Dcl.dc)) (s.prob 3 ([], o1, o2, o3)) (ws.drop (n + 1)) = parseL cv (L.map Dcl.dc) ws from HST0.out)
        have HN := Lib.hid (show n + 1 ≤ ws.length from hlt)
        have HL := Lib.hid (show (s.prob 3 ([], o1, o2, o3)).out.length ≤ n + 1 ∧ (s.prob 3 ([], o1, o2, o3)).wrong.length ≤ n + 1 from ⟨by have := (grew_prob s 3 ([], o1, o2, o3)).1; have := HO.out; omega, by have := (grew_prob s 3 ([], o1, o2, o3)).2; have := HO.out; omega⟩)
        clear h9 g0 g1 g2 g3 hi1 hi2
        go_wp2_with fail
        go_roundw
        case rel => exact ⟨n + 1, s.prob 3 ([], o1, o2, o3), vo9, vr9, HN.out, HQ.out, HST.out, HL.out.1, HL.out.2⟩
        case measure =>
          rw [rd_eq HP1.out, rd_eq (HQ.out.row.cell (j := 1) rfl)]
          have := HN.out
          have := HLT.out
          simp [intOf]
          omega
      | cons c0 u =>
        have hie : (bsB (c0 :: u)).toList.isEmpty = false := by rw [ByteArray.toList_eq, bsB_list]; rfl
        have HCM := Lib.hid (ps_command c L ws n s vo vr (c0 :: u, o1, o2, o3) _ (HCX.out n s vo vr _ HP.out (by have := HO.out; omega) (by have := HO.out; omega) hlt) HX.out (by simp))
        go_wp2_with fail
        refine HCM.out.mono ?_
        rintro e w9 ⟨n2, hn1, hn2, hst, rfl, vo9, vr9, h9⟩
        have HST := Lib.hid (show pRun cv (knL cv (L.map Dcl.dc)) (pStep cv (knL cv (L.map Dcl.dc)) s (c0 :: u, o1, o2, o3) (ws.drop (n + 1))).1 (ws.drop n2) = parseL cv (L.map Dcl.dc) ws by rw [← hst]; exact HST0.out)
        have hq0 : ∃ q : Int, (n2 : Int) - 1 = q := ⟨_, rfl⟩
        obtain ⟨q, hq⟩ := hq0
        rw [hq] at h9
        have HL := Lib.hid (show (pStep cv (knL cv (L.map Dcl.dc)) s (c0 :: u, o1, o2, o3) (ws.drop (n + 1))).1.out.length ≤ n2 ∧ (pStep cv (knL cv (L.map Dcl.dc)) s (c0 :: u, o1, o2, o3) (ws.drop (n + 1))).1.wrong.length ≤ n2 from ⟨by have := HGR.out.1; have := HO.out; omega, by have := HGR.out.2; have := HO.out; omega⟩)
        generalize (pStep cv (knL cv (L.map Dcl.dc)) s (c0 :: u, o1, o2, o3) (ws.drop (n + 1))).1 = s9 at h9 HST HL
        have p1 := h9.row.cell (j := 1) rfl
        have f1 := h9.row.free (j := 1) (by simp [parC])
        have HQ := Lib.hid (show ParX c ((n2 : Nat) : Int) s9 vo9 vr9 (w9.setCell ⟨c.B, 1, none⟩ (.int .i64 (q + 1))) by rw [show ((n2 : Nat) : Int) = q + 1 by omega]; exact h9.at_ _)
        have HN := Lib.hid hn2
        have hq1 : 0 ≤ q := by omega
        have hq2 : q ≤ 1000000 := by omega
        have HLT := Lib.hid (show n < n2 ∧ n < ws.length from ⟨hn1, hlt⟩)
        clear h9 g0 g1 g2 g3 hi1 hi2 hst hn1 hn2 hq
        go_wp2_with fail
        go_roundw
        case rel => exact ⟨n2, s9, vo9, vr9, HN.out, HQ.out, HST.out, HL.out.1, HL.out.2⟩
        case measure =>
          rw [rd_eq HP1.out, rd_eq (HQ.out.row.cell (j := 1) rfl)]
          have := HN.out
          have := HLT.out
          simp [intOf]
          omega
    · obtain rfl : n = ws.length := by omega
      have hf : s = parseL cv (L.map Dcl.dc) ws := by
        rw [← HR.out, List.drop_length, pRun_nil]
      have HF := Lib.hid hf
      obtain ⟨ao, co, rfl, -, -⟩ := (SlR.of_own HP.out.o).shape
      obtain ⟨ar, cr, rfl, -, -⟩ := (SlR.of_own HP.out.r).shape
      have p7 := HP.out.row.cell (j := 7) rfl
      have p8 := HP.out.row.cell (j := 8) rfl
      have hlt2 : ¬ (ws.length : Int) < (ws.length : Int) := by omega
      clear hb hf
      go_wp2_with fail
      go_quiet (fail)
      go_wp2_with fail
      refine bodyPost_ret (v := .tuple #[.slice ao s.out.length co, .slice ar s.wrong.length cr]) (by simp [results, Tryz.results14, go_sem]) rfl ?_
      have hw0 := HCA.out.1
      have h9 := HP.out.later (below_drewN (Below.refl _ wr) nq)
      unfold ParsePost
      rw [← HF.out]
      exact ⟨_, _, rfl, hw0 ▸ h9.o, hw0 ▸ h9.r, hw0 ▸ h9.b⟩
end Go.Proofs.YtgnkjcdkfcikeaaGreatDoor
