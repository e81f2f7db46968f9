import Derived.Test.YtbiadennhnokhaaGreatDoorZ10
import Derived.Test.YtbiadennhnokhaaGreatDoorZ13
import Derived.Test.YtbiadennhnokhaaGreatDoorZ01
import Derived.OrdersHeld
import Derived.Deep.RegionHeld
/- Traces in memory; trace.Kind; are two traces equal. -/
namespace Go.Proofs.YtbiadennhnokhaaGreatDoor
open Go.RowKit
set_option linter.unusedSimpArgs false

/-- where the parts of a trace lie -/
structure TP where
  vs : Value
  vv : Value
  vg : Value
  vp : Value
  M : List (Sg × Value)
def TP.v (p : TP) (t : Tr) : Value := .agg #[.int .i64 t.sc, .string (bsB t.dt), .string (bsB t.vn), .string (bsB t.cm), p.vs, p.vv, p.vg, p.vp, .int .i64 t.en]
structure TrM (w : World) (t : Tr) (p : TP) : Prop where
  s : SlR w p.vs t.S.length (scs t.S)
  v : SlR w p.vv t.V.length (vrs t.V)
  g : Sigs w p.vg p.M
  q : SlR w p.vp t.P.length (gps t.P)
  m : p.M.map Prod.fst = t.G
theorem TrM.below {w W : World} {t : Tr} {p : TP} (h : TrM w t p) (hb : Below w.heap.size w W) : TrM W t p := ⟨h.s.below hb, h.v.below hb, h.g.below hb, h.q.below hb, h.m⟩
theorem TrM.len {w : World} {t : Tr} {p : TP} (h : TrM w t p) : p.M.length = t.G.length := by rw [← h.m, List.length_map]
theorem tr_Kind (n : Int) (w : World) : Calls Tryz.prog 16 #[.int .i64 n] w fun e w' => e = .returned (.int .i64 (kindF n)) ∧ w = w' := by
  by_cases h3 : n = 3
  · subst h3
    go_enter Tryz.func16, Tryz.ntmps16
    go_wp2_with fail
    go_ret
    exact ⟨rfl, rfl⟩
  · have b3 : (n == 3) = false := by simpa using h3
    by_cases h4 : n = 4
    · subst h4
      go_enter Tryz.func16, Tryz.ntmps16
      go_wp2_with fail
      go_ret
      exact ⟨rfl, rfl⟩
    · have b4 : (n == 4) = false := by simpa using h4
      by_cases h6 : n = 6
      · subst h6
        go_enter Tryz.func16, Tryz.ntmps16
        go_wp2_with fail
        go_ret
        exact ⟨rfl, rfl⟩
      · have b6 : (n == 6) = false := by simpa using h6
        by_cases h0 : n = 0
        · subst h0
          go_enter Tryz.func16, Tryz.ntmps16
          go_wp2_with fail
          go_ret
          exact ⟨rfl, rfl⟩
        · have b0 : (n == 0) = false := by simpa using h0
          have HR := Lib.hid (show 0 = kindF n by unfold kindF; rw [if_neg (by omega), if_neg h6, if_neg h0])
          clear h3 h4 h6 h0
          go_enter Tryz.func16, Tryz.ntmps16
          go_wp2_with fail
          go_ret
          exact ⟨ret_int' HR.out, rfl⟩
theorem sEq_dec (x y : Sg) : sEq x.1 x.2.1 x.2.2 y.1 y.2.1 y.2.2 = decide (x = y) := by
  obtain ⟨k, n, l⟩ := x
  obtain ⟨k2, n2, m⟩ := y
  unfold sEq sameC
  rw [Bool.eq_iff_iff]
  simp only [Bool.and_eq_true, decide_eq_true_iff, Prod.mk.injEq]
set_option maxHeartbeats 800000 in
set_option maxRecDepth 100000 in
theorem eqf_sg (v u : Value) (L M : List (Sg × Value)) (w : World) (hs : Sigs w v L) (ht : Sigs w u M) :
    Calls Tryz.prog 75 #[v, u, (.func (.func 76) #[] #[])] w fun e w' => e = .returned (.bool (decide (L.map Prod.fst = M.map Prod.fst))) ∧ Below w.heap.size w w' := by
  obtain ⟨a, cap, rfl, hc, hm⟩ := hs.s.shape
  obtain ⟨a2, cap2, rfl, hc2, hm2⟩ := ht.s.shape
  unfold maxLen at hm hm2
  have HS := Lib.hid hs
  have HT := Lib.hid ht
  clear hs ht
  obtain ⟨R, hR⟩ : ∃ R, R = decide (L.map Prod.fst = M.map Prod.fst) := ⟨_, rfl⟩
  rw [← hR]
  by_cases hne : L.length ≠ M.length
  · have E := Lib.hid (show R = false by rw [hR, decide_eq_false_iff_not]; intro h; exact hne (by have := congrArg List.length h; simpa using this))
    have hb : ((L.length : Int) != (M.length : Int)) = true := by rw [bne_iff_ne]; omega
    clear hne hR
    go_enter Tryz.func75, Tryz.ntmps75
    go_wp2_with fail
    go_ret
    exact ⟨ret_bool E.out.symm, Below.refl _ _⟩
  have hlen : L.length = M.length := by omega
  have HLEN := Lib.hid hlen
  have HR := Lib.hid hR
  have hb : ((L.length : Int) != (M.length : Int)) = false := by rw [hlen]; simp
  clear hne hlen hR
  go_enter Tryz.func75, Tryz.ntmps75
  go_wp2_with fail
  go_loopw [17] (fun i wr => ∃ (j : Nat), j ≤ L.length ∧ i = .int .i64 j ∧ (L.map Prod.fst).take j = (M.map Prod.fst).take j ∧ Below w.heap.size w wr)
    (fun i _ => L.length - (intOf i).toNat)
  case atStart => exact ⟨0, Nat.zero_le _, rfl, rfl, Below.refl _ _⟩
  case round =>
    obtain ⟨j, hj, rfl, hgo, hbw⟩ := hrel
    have HGO := Lib.hid hgo
    have HB := Lib.hid hbw
    clear hgo hbw
    by_cases hlt : j < L.length
    · have hlt2 : j < M.length := by have := HLEN.out; omega
      obtain ⟨b, o, rfl, d0, d1, d2, hd⟩ := (HS.out.below HB.out).at hlt
      obtain ⟨b2, o2, rfl, g0, g1, g2, hg⟩ := (HT.out.below HB.out).at hlt2
      have HGO2 := Lib.hid (fun (h : L[j].1 = M[j].1) => (show (L.map Prod.fst).take (j + 1) = (M.map Prod.fst).take (j + 1) by
        rw [List.take_succ_eq_append_getElem (by simpa using hlt), List.take_succ_eq_append_getElem (by simpa using hlt2), HGO.out]
        simp [h]))
      have HNO := Lib.hid (fun (h : ¬ L[j].1 = M[j].1) => (show R = false by
        rw [HR.out, decide_eq_false_iff_not]
        intro h2
        have h3 : (L.map Prod.fst)[j]'(by simpa using hlt) = (M.map Prod.fst)[j]'(by simpa using hlt2) := by simp only [h2]
        simp at h3
        exact h h3))
      have zb2 : b2 < wr.heap.size := cell_lt g0
      generalize L[j] = x at d0 d1 d2 hd HGO2 HNO
      generalize M[j] = y at g0 g1 g2 hg HGO2 HNO
      obtain ⟨⟨k, n, l⟩, xv⟩ := x
      obtain ⟨⟨k2, n2, m⟩, yv⟩ := y
      dsimp only at d0 d1 d2 hd g0 g1 g2 hg HGO2 HNO
      obtain ⟨xa, xc, rfl, -, -⟩ := hd.shape
      obtain ⟨ya, yc, rfl, -, -⟩ := hg.shape
      have hb2 : Below wr.heap.size wr ((wr.alloc (.cells #[.int .i64 k, .int .i64 n, .slice xa l.length xc] 45)).alloc (.cells #[.int .i64 k2, .int .i64 n2, .slice ya m.length yc] 45)) := ((Below.refl _ _).alloc (Nat.le_refl _) _).alloc (by simp) _
      have HE := Lib.hid (sig_Equal k n k2 n2 _ _ l m _ (hd.below hb2) (hg.below hb2))
      have HB2 := Lib.hid (HB.out.trans (hb2.mono HB.out.size))
      rw [show sEq k n l k2 n2 m = decide ((k, n, l) = (k2, n2, m)) from sEq_dec (k, n, l) (k2, n2, m)] at HE
      clear hd hg hb2
      by_cases he : ((k, n, l) : Sg) = (k2, n2, m)
      · have HG3 := Lib.hid (HGO2.out he)
        rw [decide_eq_true he] at HE
        clear he
        go_wp2_with fail
        refine HE.out.mono ?_
        rintro e w1 ⟨rfl, hb1⟩
        have HB3 := Lib.hid (HB2.out.trans (hb1.mono HB2.out.size))
        clear hb1 d0 d1 d2 g0 g1 g2
        go_wp2_with fail
        go_roundw
        case rel => exact ⟨j + 1, by omega, by go_num, HG3.out, HB3.out⟩
        case measure => simp [intOf]; omega
      · have HG3 := Lib.hid (HNO.out he)
        rw [decide_eq_false he] at HE
        clear he
        go_wp2_with fail
        refine HE.out.mono ?_
        rintro e w1 ⟨rfl, hb1⟩
        have HB3 := Lib.hid (HB2.out.trans (hb1.mono HB2.out.size))
        clear hb1 d0 d1 d2 g0 g1 g2
        go_wp2_with fail
        go_ret
        exact ⟨ret_bool HG3.out.symm, HB3.out⟩
    · have hj' : j = L.length := by omega
      subst hj'
      have E2 := Lib.hid (show R = true by
        rw [HR.out, decide_eq_true_iff]
        have := HGO.out
        rwa [List.take_of_length_le (by simp), List.take_of_length_le (by simp [HLEN.out])] at this)
      clear hlt
      go_wp2_with fail
      go_ret
      exact ⟨ret_bool E2.out.symm, HB.out⟩
/-- are two traces equal -/
def eqT (t u : Tr) : Bool := decide (t.sc = u.sc) && (decide (t.dt = u.dt) && (decide (t.vn = u.vn) && (decide (t.cm = u.cm) && (decide (t.en = u.en) && (decide (t.S = u.S) && (decide (t.V = u.V) && (decide (t.P = u.P) && decide (t.G = u.G))))))))
theorem eqT_iff {t u : Tr} : eqT t u = true ↔ t = u := by
  unfold eqT
  simp only [Bool.and_eq_true, decide_eq_true_iff]
  obtain ⟨a1, a2, a3, a4, a5, a6, a7, a8, a9⟩ := t
  obtain ⟨b1, b2, b3, b4, b5, b6, b7, b8, b9⟩ := u
  dsimp only
  constructor
  · rintro ⟨rfl, rfl, rfl, rfl, rfl, rfl, rfl, rfl, rfl⟩
    rfl
  · intro h
    injection h with h1 h2 h3 h4 h5 h6 h7 h8 h9
    exact ⟨h1, h2, h3, h4, h9, h5, h6, h8, h7⟩
set_option maxHeartbeats 3200000 in
set_option maxRecDepth 100000 in
theorem tr_Equal (t u : Tr) (p q : TP) (w : World) (ht : TrM w t p) (hu : TrM w u q) : Calls Tryz.prog 21 #[p.v t, q.v u] w fun e w' => e = .returned (.bool (eqT t u)) ∧ Below w.heap.size w w' := by
  obtain ⟨hs, hv, hg, hq, hm⟩ := ht
  obtain ⟨hs2, hv2, hg2, hq2, hm2⟩ := hu
  obtain ⟨sc, dt, vn, cm, S, V, G, P, en⟩ := t
  obtain ⟨sc2, dt2, vn2, cm2, S2, V2, G2, P2, en2⟩ := u
  obtain ⟨ps, pv, pg, pp, M⟩ := p
  obtain ⟨qs, qv, qg, qp, M2⟩ := q
  unfold TP.v
  dsimp only at *
  obtain ⟨a1, c1, rfl, -, -⟩ := hs.shape
  obtain ⟨a2, c2, rfl, -, -⟩ := hv.shape
  obtain ⟨a3, c3, rfl, -, -⟩ := hg.s.shape
  obtain ⟨a4, c4, rfl, -, -⟩ := hq.shape
  obtain ⟨b1, e1, rfl, -, -⟩ := hs2.shape
  obtain ⟨b2, e2, rfl, -, -⟩ := hv2.shape
  obtain ⟨b3, e3, rfl, -, -⟩ := hg2.s.shape
  obtain ⟨b4, e4, rfl, -, -⟩ := hq2.shape
  have hbw : Below w.heap.size w ((w.alloc (.cells #[.int .i64 sc, .string (bsB dt), .string (bsB vn), .string (bsB cm), .slice a1 S.length c1, .slice a2 V.length c2, .slice a3 M.length c3, .slice a4 P.length c4, .int .i64 en] 27)).alloc (.cells #[.int .i64 sc2, .string (bsB dt2), .string (bsB vn2), .string (bsB cm2), .slice b1 S2.length e1, .slice b2 V2.length e2, .slice b3 M2.length e3, .slice b4 P2.length e4, .int .i64 en2] 27)) := ((Below.refl _ _).alloc (Nat.le_refl _) _).alloc (by simp) _
  have HB := Lib.hid hbw
  have HE := Lib.hid (show (decide (sc = sc2) && (decide (dt = dt2) && (decide (vn = vn2) && (decide (cm = cm2) && (decide (en = en2) && (decide (S = S2) && (decide (V = V2) && (decide (P = P2) && decide (G = G2))))))))) = eqT ⟨sc, dt, vn, cm, S, V, G, P, en⟩ ⟨sc2, dt2, vn2, cm2, S2, V2, G2, P2, en2⟩ from rfl)
  generalize eqT ⟨sc, dt, vn, cm, S, V, G, P, en⟩ ⟨sc2, dt2, vn2, cm2, S2, V2, G2, P2, en2⟩ = R at *
  by_cases h1 : sc = sc2
  rotate_left
  · have b1 : (sc == sc2) = false := by simpa using h1
    have HR := Lib.hid (show false = R by rw [← HE.out, decide_eq_false h1]; rfl)
    clear h1 hs hv hg hq hm hs2 hv2 hg2 hq2 hm2 hbw
    go_enter Tryz.func21, Tryz.ntmps21
    go_wp2_with fail
    go_ret
    exact ⟨ret_bool HR.out, HB.out⟩
  subst h1
  by_cases h2 : dt = dt2
  rotate_left
  · have b2 := ba_ne (bs_ne h2)
    have HR := Lib.hid (show false = R by rw [← HE.out, decide_eq_false h2]; simp)
    clear h2 hs hv hg hq hm hs2 hv2 hg2 hq2 hm2 hbw
    go_enter Tryz.func21, Tryz.ntmps21
    go_wp2_with fail
    go_ret
    exact ⟨ret_bool HR.out, HB.out⟩
  subst h2
  by_cases h3 : vn = vn2
  rotate_left
  · have b2 := ba_ne (bs_ne h3)
    have HR := Lib.hid (show false = R by rw [← HE.out, decide_eq_false h3]; simp)
    clear h3 hs hv hg hq hm hs2 hv2 hg2 hq2 hm2 hbw
    go_enter Tryz.func21, Tryz.ntmps21
    go_wp2_with fail
    go_ret
    exact ⟨ret_bool HR.out, HB.out⟩
  subst h3
  by_cases h4 : cm = cm2
  rotate_left
  · have b2 := ba_ne (bs_ne h4)
    have HR := Lib.hid (show false = R by rw [← HE.out, decide_eq_false h4]; simp)
    clear h4 hs hv hg hq hm hs2 hv2 hg2 hq2 hm2 hbw
    go_enter Tryz.func21, Tryz.ntmps21
    go_wp2_with fail
    go_ret
    exact ⟨ret_bool HR.out, HB.out⟩
  subst h4
  by_cases h5 : en = en2
  rotate_left
  · have b1 : (en == en2) = false := by simpa using h5
    have HR := Lib.hid (show false = R by rw [← HE.out, decide_eq_false h5]; simp)
    clear h5 hs hv hg hq hm hs2 hv2 hg2 hq2 hm2 hbw
    go_enter Tryz.func21, Tryz.ntmps21
    go_wp2_with fail
    go_ret
    exact ⟨ret_bool HR.out, HB.out⟩
  subst h5
  have HE2 := Lib.hid (show (decide (S = S2) && (decide (V = V2) && (decide (P = P2) && decide (G = G2)))) = R by rw [← HE.out]; simp)
  have H6 := Lib.hid (fun W hW => eq_scs _ _ S S2 W (hs.below (HB.out.trans (hW : Below w.heap.size _ W))) (hs2.below (HB.out.trans hW)))
  have H7 := Lib.hid (fun W hW => eq_vrs _ _ V V2 W (hv.below (HB.out.trans (hW : Below w.heap.size _ W))) (hv2.below (HB.out.trans hW)))
  have H8 := Lib.hid (fun W hW => eq_gps _ _ P P2 W (hq.below (HB.out.trans (hW : Below w.heap.size _ W))) (hq2.below (HB.out.trans hW)))
  have H9 := Lib.hid (fun W hW => eqf_sg _ _ M M2 W (hg.below (HB.out.trans (hW : Below w.heap.size _ W))) (hg2.below (HB.out.trans hW)))
  rw [hm, hm2] at H9
  clear hs hv hg hq hm hs2 hv2 hg2 hq2 hm2 hbw HE
  generalize decide (S = S2) = r6 at *
  generalize decide (V = V2) = r7 at *
  generalize decide (P = P2) = r8 at *
  generalize decide (G = G2) = r9 at *
  have X1 := Lib.hid ((OwnRow.fresh w #[.int .i64 sc, .string (bsB dt), .string (bsB vn), .string (bsB cm), .slice a1 S.length c1, .slice a2 V.length c2, .slice a3 M.length c3, .slice a4 P.length c4, .int .i64 en] 27).below ((Below.refl _ _).alloc (Nat.le_refl _) (.cells #[.int .i64 sc, .string (bsB dt), .string (bsB vn), .string (bsB cm), .slice b1 S2.length e1, .slice b2 V2.length e2, .slice b3 M2.length e3, .slice b4 P2.length e4, .int .i64 en] 27)) (by simp))
  have Y1 := OwnRow.fresh (w.alloc (.cells #[.int .i64 sc, .string (bsB dt), .string (bsB vn), .string (bsB cm), .slice a1 S.length c1, .slice a2 V.length c2, .slice a3 M.length c3, .slice a4 P.length c4, .int .i64 en] 27)) #[.int .i64 sc, .string (bsB dt), .string (bsB vn), .string (bsB cm), .slice b1 S2.length e1, .slice b2 V2.length e2, .slice b3 M2.length e3, .slice b4 P2.length e4, .int .i64 en] 27
  rw [World.size_alloc] at Y1
  have Y1 := Lib.hid Y1
  obtain ⟨Wb, hWb⟩ : ∃ X, (w.alloc (.cells #[.int .i64 sc, .string (bsB dt), .string (bsB vn), .string (bsB cm), .slice a1 S.length c1, .slice a2 V.length c2, .slice a3 M.length c3, .slice a4 P.length c4, .int .i64 en] 27)).alloc (.cells #[.int .i64 sc, .string (bsB dt), .string (bsB vn), .string (bsB cm), .slice b1 S2.length e1, .slice b2 V2.length e2, .slice b3 M2.length e3, .slice b4 P2.length e4, .int .i64 en] 27) = X := ⟨_, rfl⟩
  have HZ := Lib.hid (show w.heap.size + 1 < Wb.heap.size by rw [← hWb]; simp)
  rw [hWb] at X1 Y1 HB H6 H7 H8 H9
  have HW := Lib.hid hWb
  clear hWb
  have H0 := Lib.hid (Below.refl w.heap.size Wb)
  have c5 := X1.out.cell (j := 5) rfl
  have c6 := X1.out.cell (j := 6) rfl
  have c7 := X1.out.cell (j := 7) rfl
  have g5 := Y1.out.cell (j := 5) rfl
  have g6 := Y1.out.cell (j := 6) rfl
  have g7 := Y1.out.cell (j := 7) rfl
  go_enter Tryz.func21, Tryz.ntmps21
  go_wp2_with fail
  rw [HW.out]
  refine (H6.out _ H0.out).mono ?_
  rintro e w6 ⟨rfl, hb8⟩
  have HB6 := Lib.hid ((show Below w.heap.size _ _ from H0.out).trans (hb8.mono (by have := H0.out.size; have := HZ.out; omega)))
  have X8 := Lib.hid (X1.out.below hb8 (by have := HZ.out; have := H0.out.size; omega))
  have Y8 := Lib.hid (Y1.out.below hb8 (by have := HZ.out; have := H0.out.size; omega))
  clear X1 Y1 c5 c6 c7 g5 g6 g7
  have X1 := X8
  have Y1 := Y8
  clear X8 Y8 hb8
  have c5 := X1.out.cell (j := 5) rfl
  have c6 := X1.out.cell (j := 6) rfl
  have c7 := X1.out.cell (j := 7) rfl
  have g5 := Y1.out.cell (j := 5) rfl
  have g6 := Y1.out.cell (j := 6) rfl
  have g7 := Y1.out.cell (j := 7) rfl
  cases r6
  · have HR := Lib.hid (show false = R by rw [← HE2.out]; rfl)
    go_wp2_with fail
    go_ret
    exact ⟨ret_bool HR.out, HB.out.trans HB6.out⟩
  go_wp2_with fail
  refine (H7.out _ HB6.out).mono ?_
  rintro e w7 ⟨rfl, hb8⟩
  have HB7 := Lib.hid ((show Below w.heap.size _ _ from HB6.out).trans (hb8.mono (by have := HB6.out.size; have := HZ.out; omega)))
  have X8 := Lib.hid (X1.out.below hb8 (by have := HZ.out; have := HB6.out.size; omega))
  have Y8 := Lib.hid (Y1.out.below hb8 (by have := HZ.out; have := HB6.out.size; omega))
  clear X1 Y1 c5 c6 c7 g5 g6 g7
  have X1 := X8
  have Y1 := Y8
  clear X8 Y8 hb8
  have c5 := X1.out.cell (j := 5) rfl
  have c6 := X1.out.cell (j := 6) rfl
  have c7 := X1.out.cell (j := 7) rfl
  have g5 := Y1.out.cell (j := 5) rfl
  have g6 := Y1.out.cell (j := 6) rfl
  have g7 := Y1.out.cell (j := 7) rfl
  cases r7
  · have HR := Lib.hid (show false = R by rw [← HE2.out]; rfl)
    go_wp2_with fail
    go_ret
    exact ⟨ret_bool HR.out, HB.out.trans HB7.out⟩
  go_wp2_with fail
  refine (H8.out _ HB7.out).mono ?_
  rintro e w8 ⟨rfl, hb8⟩
  have HB8 := Lib.hid ((show Below w.heap.size _ _ from HB7.out).trans (hb8.mono (by have := HB7.out.size; have := HZ.out; omega)))
  have X8 := Lib.hid (X1.out.below hb8 (by have := HZ.out; have := HB7.out.size; omega))
  have Y8 := Lib.hid (Y1.out.below hb8 (by have := HZ.out; have := HB7.out.size; omega))
  clear X1 Y1 c5 c6 c7 g5 g6 g7
  have X1 := X8
  have Y1 := Y8
  clear X8 Y8 hb8
  have c5 := X1.out.cell (j := 5) rfl
  have c6 := X1.out.cell (j := 6) rfl
  have c7 := X1.out.cell (j := 7) rfl
  have g5 := Y1.out.cell (j := 5) rfl
  have g6 := Y1.out.cell (j := 6) rfl
  have g7 := Y1.out.cell (j := 7) rfl
  cases r8
  · have HR := Lib.hid (show false = R by rw [← HE2.out]; rfl)
    go_wp2_with fail
    go_ret
    exact ⟨ret_bool HR.out, HB.out.trans HB8.out⟩
  go_wp2_with fail
  refine (H9.out _ HB8.out).mono ?_
  rintro e w9 ⟨rfl, hb8⟩
  have HB9 := Lib.hid ((show Below w.heap.size _ _ from HB8.out).trans (hb8.mono (by have := HB8.out.size; have := HZ.out; omega)))
  have X8 := Lib.hid (X1.out.below hb8 (by have := HZ.out; have := HB8.out.size; omega))
  have Y8 := Lib.hid (Y1.out.below hb8 (by have := HZ.out; have := HB8.out.size; omega))
  clear X1 Y1 c5 c6 c7 g5 g6 g7
  have X1 := X8
  have Y1 := Y8
  clear X8 Y8 hb8
  have c5 := X1.out.cell (j := 5) rfl
  have c6 := X1.out.cell (j := 6) rfl
  have c7 := X1.out.cell (j := 7) rfl
  have g5 := Y1.out.cell (j := 5) rfl
  have g6 := Y1.out.cell (j := 6) rfl
  have g7 := Y1.out.cell (j := 7) rfl
  have HR := Lib.hid (show r9 = R by rw [← HE2.out]; simp)
  go_wp2_with fail
  go_ret
  exact ⟨ret_bool HR.out, HB.out.trans HB9.out⟩
end Go.Proofs.YtbiadennhnokhaaGreatDoor
/- trace.copied. -/
namespace Go.Proofs.YtbiadennhnokhaaGreatDoor
open Go.RowKit
set_option linter.unusedSimpArgs false

theorem sg_info : (Tryz.prog.info? 45).map (fun i => (i.zero, i.size, i.bytes)) = some (some (.agg #[.int .i64 0, .int .i64 0, .slice none 0 0]), 3, 40) := by kernel_rfl
theorem sgs_one : ∀ (l : List (Sg × Value)), (∀ x ∈ l, x.2.oneCell' = true) → ∀ u ∈ sgs l, u.oneCell' = true
  | [], _, u, hu => by simp [sgs] at hu
  | x :: l, h, u, hu => by
    rw [sgs_cons] at hu
    rcases List.mem_cons.1 hu with rfl | hu
    · rfl
    rcases List.mem_cons.1 hu with rfl | hu
    · rfl
    rcases List.mem_cons.1 hu with rfl | hu
    · exact h x (by simp)
    · exact sgs_one l (fun y hy => h y (List.mem_cons_of_mem _ hy)) u hu
theorem scs_nil_of (l : List Sc) (h : l.length = 0) : scs l = [] := by rw [List.length_eq_zero_iff.1 h]; rfl
theorem vrs_nil_of2 (l : List Vr) (h : l.length = 0) : vrs l = [] := by rw [List.length_eq_zero_iff.1 h]; rfl
theorem gps_nil_of (l : List (Int × Int)) (h : l.length = 0) : gps l = [] := by rw [List.length_eq_zero_iff.1 h]; rfl
theorem sgs_nil_of (l : List (Sg × Value)) (h : l.length = 0) : sgs l = [] := by rw [List.length_eq_zero_iff.1 h]; rfl
theorem slice_one {w : World} {v : Value} {n : Nat} {xs : List Value} (h : SlR w v n xs) : v.oneCell' = true := by
  obtain ⟨a, cap, rfl, -, -⟩ := h.shape
  rfl
set_option maxHeartbeats 400000 in
set_option maxRecDepth 100000 in
theorem cp_sc (v : Value) (l : List (Sc)) (w : World) (hs : SlR w v l.length (scs l)) (hn : l.length ≤ 1000000) (ho1 : ∀ u ∈ scs l, u.oneCell' = true) :
    Calls Tryz.prog 92 #[v] w fun e w' => ∃ v', e = .returned v' ∧ w'.ownsRow w.heap.size 55 3 v' l.length (scs l) ∧ Below w.heap.size w w' := by
  obtain ⟨a, cap, rfl, hc, hm, hz, hat⟩ := hs
  have hs : SlR w (.slice a l.length cap) l.length (scs l) := ⟨a, cap, rfl, hc, hm, hz, hat⟩
  have HONE := Lib.hid ho1
  clear ho1
  cases a with
  | none =>
    have hcap := hz rfl
    subst hcap
    have h0 : l.length = 0 := by omega
    have HL := Lib.hid (scs_nil_of l h0)
    have H0 := Lib.hid h0
    clear hs hz hat h0
    go_enter Tryz.func92, Tryz.ntmps92
    rw [H0.out]
    go_wp2_with fail
    go_ret
    exact ⟨_, rfl, by rw [HL.out]; exact World.ownsRow_nil _ _ _ _, Below.refl _ _⟩
  | some ad =>
    obtain ⟨i0, hi, iz0, iz1, iz2⟩ := info_parts (P := Tryz.prog) sc_info
    have HN := Lib.hid (hs.news (scs_nil_of l))
    have HOWN := Lib.hid (World.ownsRow_nil w w.heap.size 55 3)
    clear hs hz hat
    go_enter Tryz.func92, Tryz.ntmps92
    go_wp2_with (at_builtin; refine wpList_append_own _ rfl _ _ 22 rfl w.heap.size 55 i0 (.agg #[.string ⟨#[]⟩, .int .i64 0, .int .i64 0]) 3 32 Tryz.underlying22 hi iz0 iz1 iz2 rfl (by decide) _ _ _ rfl HOWN.out ad l.length cap (scs l) rfl (by rw [scs_len]; omega) HN.out HONE.out (by unfold maxLen; omega) (by omega) (by simp) ?_)
    intro v' w' ho hg _
    have HO := Lib.hid ho
    have HG := Lib.hid hg
    clear ho hg
    go_wp2_with fail
    go_ret
    exact ⟨_, rfl, by have := HO.out; simpa using this, (Below.refl _ _).grown HG.out (by simp) (by intro k hk; simp [Value.ownBlock] at hk)⟩
set_option maxHeartbeats 400000 in
set_option maxRecDepth 100000 in
theorem cp_vr (v : Value) (l : List (Vr)) (w : World) (hs : SlR w v l.length (vrs l)) (hn : l.length ≤ 1000000) (ho1 : ∀ u ∈ vrs l, u.oneCell' = true) :
    Calls Tryz.prog 93 #[v] w fun e w' => ∃ v', e = .returned v' ∧ w'.ownsRow w.heap.size 42 7 v' l.length (vrs l) ∧ Below w.heap.size w w' := by
  obtain ⟨a, cap, rfl, hc, hm, hz, hat⟩ := hs
  have hs : SlR w (.slice a l.length cap) l.length (vrs l) := ⟨a, cap, rfl, hc, hm, hz, hat⟩
  have HONE := Lib.hid ho1
  clear ho1
  cases a with
  | none =>
    have hcap := hz rfl
    subst hcap
    have h0 : l.length = 0 := by omega
    have HL := Lib.hid (vrs_nil_of2 l h0)
    have H0 := Lib.hid h0
    clear hs hz hat h0
    go_enter Tryz.func93, Tryz.ntmps93
    rw [H0.out]
    go_wp2_with fail
    go_ret
    exact ⟨_, rfl, by rw [HL.out]; exact World.ownsRow_nil _ _ _ _, Below.refl _ _⟩
  | some ad =>
    obtain ⟨i0, hi, iz0, iz1, iz2⟩ := info_parts (P := Tryz.prog) vr_info
    have HN := Lib.hid (hs.news (vrs_nil_of2 l))
    have HOWN := Lib.hid (World.ownsRow_nil w w.heap.size 42 7)
    clear hs hz hat
    go_enter Tryz.func93, Tryz.ntmps93
    go_wp2_with (at_builtin; refine wpList_append_own _ rfl _ _ 23 rfl w.heap.size 42 i0 (.agg #[.string ⟨#[]⟩, .int .i64 0, .int .i64 0, .int .i64 0, .bool false, .int .i64 0, .int .i64 0]) 7 64 Tryz.underlying23 hi iz0 iz1 iz2 rfl (by decide) _ _ _ rfl HOWN.out ad l.length cap (vrs l) rfl (by rw [vrs_len]; omega) HN.out HONE.out (by unfold maxLen; omega) (by omega) (by simp) ?_)
    intro v' w' ho hg _
    have HO := Lib.hid ho
    have HG := Lib.hid hg
    clear ho hg
    go_wp2_with fail
    go_ret
    exact ⟨_, rfl, by have := HO.out; simpa using this, (Below.refl _ _).grown HG.out (by simp) (by intro k hk; simp [Value.ownBlock] at hk)⟩
set_option maxHeartbeats 400000 in
set_option maxRecDepth 100000 in
theorem cp_gp (v : Value) (l : List (Int × Int)) (w : World) (hs : SlR w v l.length (gps l)) (hn : l.length ≤ 1000000) (ho1 : ∀ u ∈ gps l, u.oneCell' = true) :
    Calls Tryz.prog 95 #[v] w fun e w' => ∃ v', e = .returned v' ∧ w'.ownsRow w.heap.size 57 2 v' l.length (gps l) ∧ Below w.heap.size w w' := by
  obtain ⟨a, cap, rfl, hc, hm, hz, hat⟩ := hs
  have hs : SlR w (.slice a l.length cap) l.length (gps l) := ⟨a, cap, rfl, hc, hm, hz, hat⟩
  have HONE := Lib.hid ho1
  clear ho1
  cases a with
  | none =>
    have hcap := hz rfl
    subst hcap
    have h0 : l.length = 0 := by omega
    have HL := Lib.hid (gps_nil_of l h0)
    have H0 := Lib.hid h0
    clear hs hz hat h0
    go_enter Tryz.func95, Tryz.ntmps95
    rw [H0.out]
    go_wp2_with fail
    go_ret
    exact ⟨_, rfl, by rw [HL.out]; exact World.ownsRow_nil _ _ _ _, Below.refl _ _⟩
  | some ad =>
    obtain ⟨i0, hi, iz0, iz1, iz2⟩ := info_parts (P := Tryz.prog) gp_info
    have HN := Lib.hid (hs.news (gps_nil_of l))
    have HOWN := Lib.hid (World.ownsRow_nil w w.heap.size 57 2)
    clear hs hz hat
    go_enter Tryz.func95, Tryz.ntmps95
    go_wp2_with (at_builtin; refine wpList_append_own _ rfl _ _ 25 rfl w.heap.size 57 i0 (.agg #[.int .i64 0, .int .i64 0]) 2 16 Tryz.underlying25 hi iz0 iz1 iz2 rfl (by decide) _ _ _ rfl HOWN.out ad l.length cap (gps l) rfl (by rw [gps_len]; omega) HN.out HONE.out (by unfold maxLen; omega) (by omega) (by simp) ?_)
    intro v' w' ho hg _
    have HO := Lib.hid ho
    have HG := Lib.hid hg
    clear ho hg
    go_wp2_with fail
    go_ret
    exact ⟨_, rfl, by have := HO.out; simpa using this, (Below.refl _ _).grown HG.out (by simp) (by intro k hk; simp [Value.ownBlock] at hk)⟩
set_option maxHeartbeats 400000 in
set_option maxRecDepth 100000 in
theorem cp_ch (v : Value) (l : List (Ch)) (w : World) (hs : SlR w v l.length (chs l)) (hn : l.length ≤ 1000000) (ho1 : ∀ u ∈ chs l, u.oneCell' = true) :
    Calls Tryz.prog 96 #[v] w fun e w' => ∃ v', e = .returned v' ∧ w'.ownsRow w.heap.size 53 2 v' l.length (chs l) ∧ Below w.heap.size w w' := by
  obtain ⟨a, cap, rfl, hc, hm, hz, hat⟩ := hs
  have hs : SlR w (.slice a l.length cap) l.length (chs l) := ⟨a, cap, rfl, hc, hm, hz, hat⟩
  have HONE := Lib.hid ho1
  clear ho1
  cases a with
  | none =>
    have hcap := hz rfl
    subst hcap
    have h0 : l.length = 0 := by omega
    have HL := Lib.hid (chs_nil_of l h0)
    have H0 := Lib.hid h0
    clear hs hz hat h0
    go_enter Tryz.func96, Tryz.ntmps96
    rw [H0.out]
    go_wp2_with fail
    go_ret
    exact ⟨_, rfl, by rw [HL.out]; exact World.ownsRow_nil _ _ _ _, Below.refl _ _⟩
  | some ad =>
    obtain ⟨i0, hi, iz0, iz1, iz2⟩ := info_parts (P := Tryz.prog) change_info
    have HN := Lib.hid (hs.news (chs_nil_of l))
    have HOWN := Lib.hid (World.ownsRow_nil w w.heap.size 53 2)
    clear hs hz hat
    go_enter Tryz.func96, Tryz.ntmps96
    go_wp2_with (at_builtin; refine wpList_append_own _ rfl _ _ 43 rfl w.heap.size 53 i0 (.agg #[.int .i64 0, .string ⟨#[]⟩]) 2 24 Tryz.underlying43 hi iz0 iz1 iz2 rfl (by decide) _ _ _ rfl HOWN.out ad l.length cap (chs l) rfl (by rw [chs_len]; omega) HN.out HONE.out (by unfold maxLen; omega) (by omega) (by simp) ?_)
    intro v' w' ho hg _
    have HO := Lib.hid ho
    have HG := Lib.hid hg
    clear ho hg
    go_wp2_with fail
    go_ret
    exact ⟨_, rfl, by have := HO.out; simpa using this, (Below.refl _ _).grown HG.out (by simp) (by intro k hk; simp [Value.ownBlock] at hk)⟩
set_option maxHeartbeats 400000 in
set_option maxRecDepth 100000 in
theorem cp_sg (v : Value) (l : List (Sg × Value)) (w : World) (hs : SlR w v l.length (sgs l)) (hn : l.length ≤ 1000000) (ho1 : ∀ u ∈ sgs l, u.oneCell' = true) :
    Calls Tryz.prog 94 #[v] w fun e w' => ∃ v', e = .returned v' ∧ w'.ownsRow w.heap.size 45 3 v' l.length (sgs l) ∧ Below w.heap.size w w' := by
  obtain ⟨a, cap, rfl, hc, hm, hz, hat⟩ := hs
  have hs : SlR w (.slice a l.length cap) l.length (sgs l) := ⟨a, cap, rfl, hc, hm, hz, hat⟩
  have HONE := Lib.hid ho1
  clear ho1
  cases a with
  | none =>
    have hcap := hz rfl
    subst hcap
    have h0 : l.length = 0 := by omega
    have HL := Lib.hid (sgs_nil_of l h0)
    have H0 := Lib.hid h0
    clear hs hz hat h0
    go_enter Tryz.func94, Tryz.ntmps94
    rw [H0.out]
    go_wp2_with fail
    go_ret
    exact ⟨_, rfl, by rw [HL.out]; exact World.ownsRow_nil _ _ _ _, Below.refl _ _⟩
  | some ad =>
    obtain ⟨i0, hi, iz0, iz1, iz2⟩ := info_parts (P := Tryz.prog) sg_info
    have HN := Lib.hid (hs.news (sgs_nil_of l))
    have HOWN := Lib.hid (World.ownsRow_nil w w.heap.size 45 3)
    clear hs hz hat
    go_enter Tryz.func94, Tryz.ntmps94
    go_wp2_with (at_builtin; refine wpList_append_own _ rfl _ _ 24 rfl w.heap.size 45 i0 (.agg #[.int .i64 0, .int .i64 0, .slice none 0 0]) 3 40 Tryz.underlying24 hi iz0 iz1 iz2 rfl (by decide) _ _ _ rfl HOWN.out ad l.length cap (sgs l) rfl (by rw [sgs_len]; omega) HN.out HONE.out (by unfold maxLen; omega) (by omega) (by simp) ?_)
    intro v' w' ho hg _
    have HO := Lib.hid ho
    have HG := Lib.hid hg
    clear ho hg
    go_wp2_with fail
    go_ret
    exact ⟨_, rfl, by have := HO.out; simpa using this, (Below.refl _ _).grown HG.out (by simp) (by intro k hk; simp [Value.ownBlock] at hk)⟩
end Go.Proofs.YtbiadennhnokhaaGreatDoor
/- A region that draws its order, whose last operations write what its first ones load: what is held need not hold behind the operations that wait for all loads. -/
namespace Go.Proofs.YtbiadennhnokhaaGreatDoor
open Go.RowKit

section
variable {P : Program} {ops : Array Oper} {Q : Exit → Act → World → Prop} {md : Region.Mode} {S : World → Prop} {X : Nat → Bool}
/-- whatever order is picked, and S holds behind every operation that is not late -/
def wpAnyX (P : Program) (md : Region.Mode) (ops : Array Oper) (Q : Exit → Act → World → Prop) (S : World → Prop) (X : Nat → Bool) : Nat → Array Bool → Act → World → Prop
  | 0, listed, a, w => Region.ready md ops listed = [] ∧ Q .normal a w
  | fuel + 1, listed, a, w => (Region.ready md ops listed = [] → Q .normal a w) ∧
    ∀ i ∈ Region.ready md ops listed, wpOp P ops Q i (fun a' w' => (X i = false → S w') ∧ wpAnyX P md ops Q S X fuel (listed.setIfInBounds i true) a' w') a w
theorem wpAny_of_late : ∀ (fuel : Nat) (listed : Array Bool) (a : Act) (w : World), wpAnyX P md ops Q S X fuel listed a w → wpAny P md ops Q fuel listed a w
  | 0, _, _, _, h => h
  | fuel + 1, _, _, _, h => ⟨h.1, fun i hi => wpOp_mono (fun a' w' h' => wpAny_of_late fuel _ a' w' h'.2) (h.2 i hi)⟩
/-- all late operations wait for the i-th -/
def lateWait (md : Region.Mode) (ops : Array Oper) (X : Nat → Bool) (i : Nat) : Bool := (List.range ops.size).all fun j => !X j || match ops[j]? with
  | some oj => oj.after.any (fun e => Region.binds md e && e.on == i)
  | none => true
theorem lateWait_spec {i j : Nat} {oj : Oper} (h : lateWait md ops X i = true) (hj : ops[j]? = some oj) (hX : X j = true) : ∃ e ∈ oj.after, Region.binds md e = true ∧ e.on = i := by
  unfold lateWait at h
  rw [List.all_eq_true] at h
  have h1 := h j (List.mem_range.2 (Array.getElem?_eq_some_iff.1 hj).1)
  rw [hX, hj] at h1
  simp only [Bool.not_true, Bool.false_or] at h1
  obtain ⟨e, he, hb⟩ := Array.any_eq_true'.1 h1
  simp only [Bool.and_eq_true, beq_iff_eq] at hb
  exact ⟨e, he, hb.1, hb.2⟩
theorem wpAnyX_first {i : Nat} {oi : Oper} {v : Value} (hi : ops[i]? = some oi) (hsel : ∀ (j : Nat) (o : Oper) cs b, ops[j]? = some o → o.op ≠ .select cs b)
    (hQ : ∀ c a w, Q (.panic c) (a.put oi.dst v) w → Q (.panic c) a w) (hX : lateWait md ops X i = true) :
    ∀ (fuel : Nat) (listed : Array Bool) (a : Act) (w : World),
      (∀ j oj, ops[j]? = some oj → j ≠ i → listed.getD j true = false → (∀ e ∈ oj.after, Region.binds md e = true → e.on ≠ i) → oi.apart ops oj = true) →
      i ∈ Region.ready md ops listed → YieldsIf P ops S oi v a → S w →
      wpAnyX P md ops Q S X fuel (listed.setIfInBounds i true) (a.put oi.dst v) w → wpAnyX P md ops Q S X (fuel + 1) listed a w := by
  intro fuel
  induction fuel with
  | zero =>
    intro listed a w _ hr hy hS H
    refine ⟨fun h => (by rw [h] at hr; cases hr), fun j hj => ?_⟩
    by_cases hji : j = i
    · subst hji; exact hy.wpOp hi hS ⟨fun _ => hS, H⟩
    · have := ready_mono hj hji
      rw [H.1] at this
      cases this
  | succ fuel ih =>
    intro listed a w hfree hr hy hS H
    refine ⟨fun h => (by rw [h] at hr; cases hr), fun j hj => ?_⟩
    by_cases hji : j = i
    · subst hji; exact hy.wpOp hi hS ⟨fun _ => hS, H⟩
    · have h1 := H.2 j (ready_mono hj hji)
      obtain ⟨hjun, oj, hoj, hall⟩ := mem_ready.1 hj
      have hnot : ∀ e ∈ oj.after, Region.binds md e = true → e.on ≠ i := fun e he hb heq => by
        have h1 := hall e he hb
        have h0 := (mem_ready.1 hr).1
        rw [heq] at h1
        rcases Nat.lt_or_ge i listed.size with h' | h'
        · simp [h'] at h0 h1; rw [h0] at h1; cases h1
        · simp [Array.getElem?_eq_none h'] at h1
      have hXj : X j = false := by
        cases hx : X j with
        | false => rfl
        | true =>
          obtain ⟨e, he, hb, heq⟩ := lateWait_spec hX hoj hx
          exact absurd heq (hnot e he hb)
      have h2 := wpOp_putIf hoj (hfree j oj hoj hji hjun hnot) (fun cs b => hsel i oi cs b hi) (fun cs b => hsel j oj cs b hoj) hQ hy h1
      have hfree' : ∀ k ok, ops[k]? = some ok → k ≠ i → (listed.setIfInBounds j true).getD k true = false →
          (∀ e ∈ ok.after, Region.binds md e = true → e.on ≠ i) → oi.apart ops ok = true := fun k ok hk hki hun hno => by
        refine hfree k ok hk hki ?_ hno
        by_cases hjk : j = k
        · subst hjk; exact hjun
        · rw [getD_set_ne true hjk] at hun; exact hun
      refine wpOp_mono (fun a' w' h3 => ⟨fun _ => h3.2.1 hXj, ih (listed.setIfInBounds j true) a' w' hfree' (ready_mono hr (Ne.symm hji)) h3.1 (h3.2.1 hXj) ?_⟩) h2
      rw [Array.setIfInBounds_comm _ _ hji]
      exact h3.2.2
theorem wpAnyX_take {i : Nat} {oi : Oper} {v : Value} {fuel : Nat} {listed : Array Bool} {a : Act} {w : World} (hi : ops[i]? = some oi)
    (hs : Region.noSelect ops = true) (hf : Region.free md ops listed i = true) (hr : (Region.ready md ops listed).contains i = true) (hX : lateWait md ops X i = true)
    (hQ : ∀ c a w, Q (.panic c) (a.put oi.dst v) w → Q (.panic c) a w) (hy : YieldsIf P ops S oi v a) (hS : S w)
    (h : wpAnyX P md ops Q S X fuel (listed.setIfInBounds i true) (a.put oi.dst v) w) : wpAnyX P md ops Q S X (fuel + 1) listed a w :=
  wpAnyX_first hi (Region.noSelect_spec hs) hQ hX fuel listed a w (Region.free_spec hi hf) (by simpa using hr) hy hS h
/-- one operation alone is ready -/
theorem wpAnyX_one {i : Nat} {o : Oper} {fuel : Nat} {listed : Array Bool} {a : Act} {w : World} (hr : Region.ready md ops listed = [i]) (ho : ops[i]? = some o)
    (h : ∀ K' : Act → World → Prop, Shut (∀ a w, (X i = false → S w) → wpAnyX P md ops Q S X fuel (listed.setIfInBounds i true) a w → K' a w) → if Region.wanted o (yielded ops a.tmps) = true then Oper.wp P o a w K' Q else K' (a.put o.dst undef) w) :
    wpAnyX P md ops Q S X (fuel + 1) listed a w := by
  refine ⟨fun h0 => (by rw [hr] at h0; cases h0), fun j hj => ?_⟩
  rw [hr, List.mem_singleton] at hj
  subst hj
  exact wpOp_step ho (fun K' hK => h K' (fun a w hS hW => hK a w ⟨hS, hW⟩))
theorem wp_region_late {id : Nat} {a : Act} {w : World} (hm : P.follows .mixedOrders = true)
    (h : wpAnyX P .any ops Q S X ops.size (Array.replicate ops.size false) a w.drew) : (Code.region id ops true).wp P Q a w :=
  wp_region_any hm (wpAny_of_late _ _ _ _ h)
end
end Go.Proofs.YtbiadennhnokhaaGreatDoor
/- Plain: what swapRange, rotate and symMerge of a stable sort do to a list. -/
namespace Go.Proofs.YtbiadennhnokhaaGreatDoor

section
variable {α : Type}
/-- the i first ones of two parts of equal length are swapped -/
def swpd (X A Y B Z : List α) (i : Nat) : List α := X ++ (B.take i ++ (A.drop i ++ (Y ++ (A.take i ++ (B.drop i ++ Z)))))
theorem swpd_zero (X A Y B Z : List α) : swpd X A Y B Z 0 = X ++ (A ++ (Y ++ (B ++ Z))) := by simp [swpd]
theorem swpd_all {X A Y B Z : List α} (h : A.length = B.length) : swpd X A Y B Z A.length = X ++ (B ++ (Y ++ (A ++ Z))) := by
  simp [swpd, h, List.take_of_length_le, List.drop_of_length_le]
theorem swpd_at {X A Y B Z : List α} {i : Nat} (h : A.length = B.length) (hi : i < A.length) :
    ∃ X1 Y1 Z1, X1.length = X.length + i ∧ X1.length + 1 + Y1.length = X.length + A.length + Y.length + i ∧
      swpd X A Y B Z i = X1 ++ A[i] :: (Y1 ++ B[i] :: Z1) ∧ swpd X A Y B Z (i + 1) = X1 ++ B[i] :: (Y1 ++ A[i] :: Z1) := by
  have hi2 : i < B.length := by omega
  refine ⟨X ++ B.take i, A.drop (i + 1) ++ (Y ++ A.take i), B.drop (i + 1) ++ Z, ?_, ?_, ?_, ?_⟩
  · rw [List.length_append, List.length_take]; omega
  · simp only [List.length_append, List.length_take, List.length_drop]; omega
  · unfold swpd
    rw [List.drop_eq_getElem_cons hi, List.drop_eq_getElem_cons hi2]
    simp only [List.append_assoc, List.cons_append]
  · unfold swpd
    rw [List.take_succ_eq_append_getElem hi, List.take_succ_eq_append_getElem hi2]
    simp only [List.append_assoc, List.cons_append, List.nil_append]
/-- what is still to be rotated: A before B, from place m - i on -/
structure Rot (m i j : Nat) (l t : List α) : Prop where
  ex : ∃ P A B S, l = P ++ (A ++ (B ++ S)) ∧ t = P ++ (B ++ (A ++ S)) ∧ P.length + i = m ∧ A.length = i ∧ B.length = j
theorem Rot.more {m i j : Nat} {l t : List α} (h : Rot m i j l t) (hij : j < i) :
    ∃ X A Y B Z, l = X ++ (A ++ (Y ++ (B ++ Z))) ∧ X.length + i = m ∧ A.length = j ∧ B.length = j ∧ X.length + A.length + Y.length = m ∧ Rot m (i - j) j (X ++ (B ++ (Y ++ (A ++ Z)))) t := by
  obtain ⟨P, A, B, S, h1, h2, h3, h4, h5⟩ := h.ex
  refine ⟨P, A.take j, A.drop j, B, S, ?_, h3, by rw [List.length_take]; omega, h5, by rw [List.length_take, List.length_drop]; omega, ⟨P ++ B, A.drop j, A.take j, S, ?_, ?_, ?_, ?_, ?_⟩⟩
  · rw [h1, ← List.append_assoc (A.take j), List.take_append_drop]
  · simp
  · rw [h2, ← List.append_assoc (A.take j), List.take_append_drop]; simp
  · rw [List.length_append]; omega
  · rw [List.length_drop]; omega
  · rw [List.length_take]; omega
theorem Rot.less {m i j : Nat} {l t : List α} (h : Rot m i j l t) (hij : i < j) :
    ∃ X A Y B Z, l = X ++ (A ++ (Y ++ (B ++ Z))) ∧ X.length + i = m ∧ A.length = i ∧ B.length = i ∧ X.length + A.length + Y.length = m + j - i ∧ Rot m i (j - i) (X ++ (B ++ (Y ++ (A ++ Z)))) t := by
  obtain ⟨P, A, B, S, h1, h2, h3, h4, h5⟩ := h.ex
  refine ⟨P, A, B.take (j - i), B.drop (j - i), S, ?_, h3, h4, by rw [List.length_drop]; omega, by rw [List.length_take]; omega, ⟨P, B.drop (j - i), B.take (j - i), A ++ S, ?_, ?_, ?_, ?_, ?_⟩⟩
  · rw [h1, ← List.append_assoc (B.take (j - i)), List.take_append_drop]
  · simp
  · rw [h2, ← List.append_assoc (B.take (j - i)), List.take_append_drop]
  · omega
  · rw [List.length_drop]; omega
  · rw [List.length_take]; omega
theorem Rot.last {m i : Nat} {l t : List α} (h : Rot m i i l t) :
    ∃ X A B Z, l = X ++ (A ++ ([] ++ (B ++ Z))) ∧ X.length + i = m ∧ A.length = i ∧ B.length = i ∧ t = X ++ (B ++ ([] ++ (A ++ Z))) := by
  obtain ⟨P, A, B, S, h1, h2, h3, h4, h5⟩ := h.ex
  exact ⟨P, A, B, S, h1, h3, h4, h5, h2⟩
theorem srt_le {k : α → Int} {l : List α} (h : Srt k l) {i j : Nat} (hij : i ≤ j) (hj : j < l.length) : k (l[i]'(by omega)) ≤ k l[j] := by
  rcases Nat.lt_or_ge i j with h1 | h1
  · exact List.pairwise_iff_getElem.1 h i j (by omega) hj h1
  · obtain rfl : i = j := by omega
    exact Int.le_refl _
/-- how the merge of two sorted parts is parted -/
theorem sym_split {k : α → Int} {A B : List α} (hA : Srt k A) (hB : Srt k B) {s e : Nat} (hs : s ≤ A.length) (he : e ≤ B.length) (c1 : ∀ (h1 : 0 < s) (h2 : e < B.length), k (A[s - 1]'(by omega)) ≤ k B[e])
    (c2 : ∀ (h1 : s < A.length) (h2 : 0 < e), k (B[e - 1]'(by omega)) < k A[s]) : mrg k A B = mrg k (A.take s) (B.take e) ++ mrg k (A.drop s) (B.drop e) := by
  have h := mrg_split (k := k) (A1 := A.take s) (A2 := A.drop s) (B1 := B.take e) (B2 := B.drop e) (by rw [List.take_append_drop]; exact hA) (fun x hx y hy => ?_) (fun y hy x hx => ?_)
  · rwa [List.take_append_drop, List.take_append_drop] at h
  · obtain ⟨i, hi, rfl⟩ := List.mem_iff_getElem.1 hx
    obtain ⟨j, hj, rfl⟩ := List.mem_iff_getElem.1 hy
    rw [List.length_take] at hi
    rw [List.length_drop] at hj
    rw [List.getElem_take, List.getElem_drop]
    have h1 := srt_le hA (show i ≤ s - 1 by omega) (by omega)
    have h2 := srt_le hB (show e ≤ e + j by omega) (by omega)
    have h3 := c1 (by omega) (by omega)
    omega
  · obtain ⟨i, hi, rfl⟩ := List.mem_iff_getElem.1 hx
    obtain ⟨j, hj, rfl⟩ := List.mem_iff_getElem.1 hy
    rw [List.length_take] at hj
    rw [List.length_drop] at hi
    rw [List.getElem_take, List.getElem_drop]
    have h1 := srt_le hA (show s ≤ s + i by omega) (by omega)
    have h2 := srt_le hB (show j ≤ e - 1 by omega) (by omega)
    have h3 := c2 (by omega) (by omega)
    omega
end
end Go.Proofs.YtbiadennhnokhaaGreatDoor
