import Derived.Test.YtbiadennhnokhaaGreatDoorZ18
import Derived.BigQuiet
import Derived.Test.YtbiadennhnokhaaGreatDoorZ13
/- builder.types. -/
namespace Go.Proofs.YtbiadennhnokhaaGreatDoor
open Go.RowKit
set_option linter.unusedSimpArgs false

theorem below_dn {B : Nat} {a w : World} (h : Below B a w) (n : Nat) : Below B a (w.drewN n) := h.trans ⟨rfl, rfl, rfl, Nat.le_refl _, fun _ _ => rfl⟩
theorem own_at {w : World} {B e size n : Nat} {v : Value} {xs : List Value} (h : w.ownsRow B e size v n xs) (hn : 0 < n) :
    ∃ g c, v = .slice (some ⟨g, 0, none⟩) n c ∧ n ≤ c ∧ B ≤ g ∧ g < w.heap.size ∧ ∀ j u, xs[j]? = some u → w.cell? ⟨g, j, none⟩ = some u := by
  rcases h.2 with ⟨-, h0⟩ | ⟨g, cap, cur, e0, hb, hh, hc, -⟩
  · omega
  refine ⟨g, cap, e0, hc, hb, (Array.getElem?_eq_some_iff.1 hh).1, fun j u hj => ?_⟩
  obtain ⟨a', c', ev, -, -, -, h4⟩ := SlR.of_own h
  obtain ⟨b', o', rfl, hat⟩ := h4 hn
  rw [e0] at ev
  injection ev with ev _ _
  injection ev with ev
  injection ev with ev1 ev2 _
  subst ev1 ev2
  have := hat j u hj
  rwa [Nat.zero_add] at this
theorem BI.vr {w W : World} {t u : Tr} {p q : TP} (h : BI w t p u q W) {k : Nat} (hk : k < u.V.length) :
    ∃ g c, q.vv = .slice (some ⟨g, 0, none⟩) u.V.length c ∧ w.heap.size + 2 ≤ g ∧ g < W.heap.size ∧ W.cell? ⟨g, k * 7, none⟩ = some (.string (bsB u.V[k].nm)) ∧ W.cell? ⟨g, k * 7 + 1, none⟩ = some (.int .i64 u.V[k].ty) ∧
      W.cell? ⟨g, k * 7 + 2, none⟩ = some (.int .i64 u.V[k].sc) ∧ W.cell? ⟨g, k * 7 + 3, none⟩ = some (.int .i64 u.V[k].sg) ∧ W.cell? ⟨g, k * 7 + 4, none⟩ = some (.bool u.V[k].rg) ∧
      W.cell? ⟨g, k * 7 + 5, none⟩ = some (.int .i64 u.V[k].mb) ∧ W.cell? ⟨g, k * 7 + 6, none⟩ = some (.int .i64 u.V[k].lb) := by
  obtain ⟨g, c, e, -, h1, h2, -⟩ := own_at h.v (by omega)
  have hs := h.v
  rw [e, show u.V = u.V.take k ++ u.V[k] :: u.V.drop (k + 1) by rw [← List.drop_eq_getElem_cons hk, List.take_append_drop]] at hs
  have hl : (u.V.take k ++ u.V[k] :: u.V.drop (k + 1)).length = u.V.length := by rw [← List.drop_eq_getElem_cons hk, List.take_append_drop]
  have hh := SO.at (X := u.V.take k) (Z := u.V.drop (k + 1)) (x := u.V[k]) (by rw [hl] at hs; exact hs)
  rw [List.length_take, Nat.min_eq_left (Nat.le_of_lt hk)] at hh
  exact ⟨g, c, e, h1, h2, hh⟩
theorem BI.sg {w W : World} {t u : Tr} {p q : TP} (h : BI w t p u q W) {k : Nat} (hk : k < q.M.length) :
    ∃ g c, q.vg = .slice (some ⟨g, 0, none⟩) q.M.length c ∧ w.heap.size + 2 ≤ g ∧ g < W.heap.size ∧ W.cell? ⟨g, k * 3, none⟩ = some (.int .i64 q.M[k].1.1) ∧ W.cell? ⟨g, k * 3 + 1, none⟩ = some (.int .i64 q.M[k].1.2.1) ∧ W.cell? ⟨g, k * 3 + 2, none⟩ = some q.M[k].2 ∧
      SlR W q.M[k].2 q.M[k].1.2.2.length (chs q.M[k].1.2.2) := by
  obtain ⟨g, c, e, -, h1, h2, hc⟩ := own_at h.g (by omega)
  obtain ⟨h3, h4, h5⟩ := sgs_at q.M k hk
  refine ⟨g, c, e, h1, h2, ?_, ?_, ?_, ?_⟩
  · rw [Nat.mul_comm]; exact hc _ _ h3
  · rw [Nat.mul_comm]; exact hc _ _ h4
  · rw [Nat.mul_comm]; exact hc _ _ h5
  · rcases h.c _ (List.getElem_mem hk) with h6 | h6
    · exact (h.l _ h6).below h.b
    · exact SlR.of_own h6
theorem BI.ml {w W : World} {t u : Tr} {p q : TP} (h : BI w t p u q W) : q.M.length = u.G.length := by rw [← h.m, List.length_map]
theorem firstE_drop {α : Type} {f : α → Int} {l : List α} {k : Nat} (hk : k < l.length) : firstE f (l.drop k) = if f l[k] ≠ 0 then f l[k] else firstE f (l.drop (k + 1)) := by
  rw [List.drop_eq_getElem_cons hk]; rfl
set_option maxHeartbeats 1600000 in
set_option maxRecDepth 100000 in
theorem tb_types (w W : World) (t u : Tr) (p q : TP) (h : BI w t p u q W) (hf : ∀ v ∈ u.V, 0 ≤ v.sg ∧ v.sg < u.G.length) (hl : u.V.length ≤ 1000) (hl2 : u.G.length ≤ 1000) :
    Calls Tryz.prog 55 #[.pointer (some ⟨w.heap.size, 0, none⟩)] W fun e W' => StepZ w t p q.vp (firstE (fitE u.G) u.V) u e W' := by
  have HI := Lib.hid h
  have HF := Lib.hid hf
  have c14 := h.x.cell (j := 14) rfl
  obtain ⟨va, vc, ev, -, -⟩ := (SlR.of_own h.v).shape
  rw [ev] at c14
  have HB0 := Lib.hid (Below.refl W.heap.size W)
  clear h hf
  go_enter Tryz.func55, Tryz.ntmps55
  go_wp2_with fail
  go_loopw [12] (fun i wr => ∃ k : Nat, k ≤ u.V.length ∧ i = .int .i64 k ∧ firstE (fitE u.G) (u.V.drop k) = firstE (fitE u.G) u.V ∧ Below W.heap.size W wr) (fun i _ => u.V.length - (intOf i).toNat)
  case atStart => exact ⟨0, Nat.zero_le _, rfl, rfl, HB0.out⟩
  case round =>
    obtain ⟨k, hk, rfl, hgo, hb⟩ := hrel
    have HB := Lib.hid hb
    have HGO := Lib.hid hgo
    clear hgo hb c14
    by_cases hlt : k < u.V.length
    · have HI2 := Lib.hid (HI.out.next HB.out)
      obtain ⟨g, c, ev2, hg1, hg2, d0, d1, d2, d3, d4, d5, d6⟩ := HI2.out.vr hlt
      rw [ev] at ev2
      injection ev2 with ev2 _ ev3
      subst ev2 ev3
      obtain ⟨hs1, hs2⟩ := HF.out _ (List.getElem_mem hlt)
      have HG1 := Lib.hid (firstE_drop (f := fitE u.G) hlt)
      rw [HGO.out] at HG1
      generalize u.V[k] = x at *
      obtain ⟨nm, ty, sc, sg, rg, mb, lb⟩ := x
      dsimp only at d0 d1 d2 d3 d4 d5 d6 hs1 hs2
      obtain ⟨m, rfl⟩ : ∃ m : Nat, sg = m := ⟨sg.toNat, by omega⟩
      have hm : m < q.M.length := by rw [HI2.out.ml]; omega
      obtain ⟨gg, gc, eg, hh1, hh2, s0, s1, s2, s3⟩ := HI2.out.sg hm
      obtain ⟨xa, xc, ex, -, -⟩ := s3.shape
      rw [ex] at s2
      clear s3
      have c15 := HI2.out.x.cell (j := 15) rfl
      rw [eg] at c15
      have hML : q.M.length ≤ 1000 := by rw [HI2.out.ml]; exact hl2
      have HSG := Lib.hid (show sgI u.G (m : Int) = q.M[m].1 by
        unfold sgI
        rw [← HI2.out.m, Int.toNat_natCast]
        simp [List.getD, hm])
      have HFT := Lib.hid (show fitE u.G ⟨nm, ty, sc, (m : Int), rg, mb, lb⟩ = if q.M[m].1.1 ≠ kindF ty ∨ (rg = true ∧ q.M[m].1.1 ≠ 0) then 7 else if rg = true ∧ q.M[m].1.2.1 ≠ widthF mb lb then 8 else 0 by
        unfold fitE
        rw [HSG.out])
      clear ex
      generalize q.M[m].1.2.2.length = xn at *
      generalize q.M[m].1 = y at *
      obtain ⟨kd, wd, cl⟩ := y
      dsimp only at s0 s1 s2 HFT
      clear HSG
      have hgz := HI2.out.lt
      have X4 := Lib.hid (OwnRow.fresh wr #[.string (bsB nm), .int .i64 ty, .int .i64 sc, .int .i64 (m : Int), .bool rg, .int .i64 mb, .int .i64 lb] 42)
      have hb4 : Below wr.heap.size wr (wr.alloc (.cells #[.string (bsB nm), .int .i64 ty, .int .i64 sc, .int .i64 (m : Int), .bool rg, .int .i64 mb, .int .i64 lb] 42)) := (Below.refl _ _).alloc (Nat.le_refl _) _
      have hz4 : wr.heap.size < (wr.alloc (.cells #[.string (bsB nm), .int .i64 ty, .int .i64 sc, .int .i64 (m : Int), .bool rg, .int .i64 mb, .int .i64 lb] 42)).heap.size := by simp
      go_wp2_with fail
      generalize wr.alloc (.cells #[.string (bsB nm), .int .i64 ty, .int .i64 sc, .int .i64 (m : Int), .bool rg, .int .i64 mb, .int .i64 lb] 42) = w4 at *
      have e3 := X4.out.cell (j := 3) rfl
      rw [← hb4.cell (p := ⟨gg, m * 3, none⟩) hh2] at s0
      rw [← hb4.cell (p := ⟨gg, m * 3 + 1, none⟩) hh2] at s1
      rw [← hb4.cell (p := ⟨gg, m * 3 + 2, none⟩) hh2] at s2
      rw [← hb4.cell (p := ⟨w.heap.size, 15, none⟩) hgz] at c15
      have HB4 := Lib.hid hb4
      have hz6 : w.heap.size < w4.heap.size := Nat.lt_trans hgz hz4
      have hz7 : gg < w4.heap.size := Nat.lt_trans hh2 hz4
      clear d0 d1 d2 d3 d4 d5 d6 hb4
      go_region
      have X5 := Lib.hid (OwnRow.fresh w4 #[.int .i64 kd, .int .i64 wd, .slice xa xn xc] 45).drew
      have hb5 : Below w4.heap.size w4 (w4.alloc (.cells #[.int .i64 kd, .int .i64 wd, .slice xa xn xc] 45)).drew := ((Below.refl _ _).alloc (Nat.le_refl _) _).drew
      have hz5 : w4.heap.size < (w4.alloc (.cells #[.int .i64 kd, .int .i64 wd, .slice xa xn xc] 45)).drew.heap.size := by show _ < (w4.alloc _).heap.size; simp
      generalize (w4.alloc (.cells #[.int .i64 kd, .int .i64 wd, .slice xa xn xc] 45)).drew = w5 at *
      have X4 := Lib.hid (X4.out.below hb5 hz4)
      have HB5 := Lib.hid (HB.out.trans ((HB4.out.trans (hb5.mono HB4.out.size)).mono HB.out.size))
      clear s0 s1 s2 c15 e3 hb5 HB4
      have r1 := X4.out.cell (j := 1) rfl
      have r4 := X4.out.cell (j := 4) rfl
      have r5 := X4.out.cell (j := 5) rfl
      have r6 := X4.out.cell (j := 6) rfl
      have v0 := X5.out.cell (j := 0) rfl
      have v1 := X5.out.cell (j := 1) rfl
      have HKD := Lib.hid (fun W => tr_Kind ty W)
      have HWI := Lib.hid (fun W => nm_Width mb lb W)
      generalize kindF ty = kf at *
      generalize widthF mb lb = wf at *
      by_cases hA : kd = kf
      · subst hA
        cases rg with
        | false =>
          have hR := HG1.out
          simp [HFT.out] at hR
          have HR := Lib.hid hR.symm
          clear hR
          go_wp2_with fail
          go_quiet ((go_at_call 16; exact Calls.quiet_of_same ((HKD.out _).mono (by rintro e w ⟨rfl, rfl⟩; exact ⟨rfl, rfl⟩))))
          have HB6 := Lib.hid (below_dn HB5.out nq)
          have q4 := (World.cell?_drewN w5 nq _).trans r4
          have q5 := (World.cell?_drewN w5 nq _).trans r5
          have q6 := (World.cell?_drewN w5 nq _).trans r6
          have y1 := (World.cell?_drewN w5 nq _).trans v1
          generalize w5.drewN nq = w6 at *
          clear r1 r4 r5 r6 v0 v1
          go_wp2_with fail
          go_quiet (fail)
          clear q4 q5 q6 y1
          have HB7 := Lib.hid (below_dn HB6.out nq)
          go_wp2_with fail
          go_roundw
          case rel => exact ⟨k + 1, hlt, by go_num, HR.out, HB7.out⟩
          case measure => simp [intOf]; omega
        | true =>
          by_cases hk0 : kd = 0
          · subst hk0
            by_cases hw : wd = wf
            · subst hw
              have hR := HG1.out
              simp [HFT.out] at hR
              have HR := Lib.hid hR.symm
              clear hR
              go_wp2_with fail
              go_quiet ((go_at_call 16; exact Calls.quiet_of_same ((HKD.out _).mono (by rintro e w ⟨rfl, rfl⟩; exact ⟨rfl, rfl⟩))))
              have HB6 := Lib.hid (below_dn HB5.out nq)
              have q4 := (World.cell?_drewN w5 nq _).trans r4
              have q5 := (World.cell?_drewN w5 nq _).trans r5
              have q6 := (World.cell?_drewN w5 nq _).trans r6
              have y1 := (World.cell?_drewN w5 nq _).trans v1
              generalize w5.drewN nq = w6 at *
              clear r1 r4 r5 r6 v0 v1
              go_wp2_with fail
              go_quiet ((go_at_call 122; exact Calls.quiet_of_same ((HWI.out _).mono (by rintro e w ⟨rfl, rfl⟩; exact ⟨rfl, rfl⟩))))
              clear q4 q5 q6 y1
              have HB7 := Lib.hid (below_dn HB6.out nq)
              go_wp2_with fail
              go_roundw
              case rel => exact ⟨k + 1, hlt, by go_num, HR.out, HB7.out⟩
              case measure => simp [intOf]; omega
            · have bw : (wd == wf) = false := by simpa using hw
              have hR := HG1.out
              simp [HFT.out, hw] at hR
              have HR := Lib.hid hR.symm
              clear hR
              go_wp2_with fail
              go_quiet ((go_at_call 16; exact Calls.quiet_of_same ((HKD.out _).mono (by rintro e w ⟨rfl, rfl⟩; exact ⟨rfl, rfl⟩))))
              have HB6 := Lib.hid (below_dn HB5.out nq)
              have q4 := (World.cell?_drewN w5 nq _).trans r4
              have q5 := (World.cell?_drewN w5 nq _).trans r5
              have q6 := (World.cell?_drewN w5 nq _).trans r6
              have y1 := (World.cell?_drewN w5 nq _).trans v1
              generalize w5.drewN nq = w6 at *
              clear r1 r4 r5 r6 v0 v1
              go_wp2_with fail
              go_quiet ((go_at_call 122; exact Calls.quiet_of_same ((HWI.out _).mono (by rintro e w ⟨rfl, rfl⟩; exact ⟨rfl, rfl⟩))))
              clear q4 q5 q6 y1
              have HB7 := Lib.hid (below_dn HB6.out nq)
              have HI7 := Lib.hid (HI.out.next HB7.out)
              go_wp2_with fail
              go_ret
              exact ⟨ret_int' HR.out, HI7.out.b, fun h => by rw [← HR.out] at h; cases h⟩
          · have bk0 : (kd == 0) = false := by simpa using hk0
            have hR := HG1.out
            rw [HFT.out, if_pos (Or.inr ⟨rfl, hk0⟩), if_pos (by decide)] at hR
            have HR := Lib.hid hR.symm
            clear hR
            go_wp2_with fail
            go_quiet ((go_at_call 16; exact Calls.quiet_of_same ((HKD.out _).mono (by rintro e w ⟨rfl, rfl⟩; exact ⟨rfl, rfl⟩))))
            have HB6 := Lib.hid (below_dn HB5.out nq)
            have HI6 := Lib.hid (HI.out.next HB6.out)
            clear r1 r4 r5 r6 v0 v1
            go_wp2_with fail
            go_ret
            exact ⟨ret_int' HR.out, HI6.out.b, fun h => by rw [← HR.out] at h; cases h⟩
      · have bA : (kd == kf) = false := by simpa using hA
        have hR := HG1.out
        rw [HFT.out, if_pos (Or.inl hA), if_pos (by decide)] at hR
        have HR := Lib.hid hR.symm
        clear hR
        go_wp2_with fail
        go_quiet ((go_at_call 16; exact Calls.quiet_of_same ((HKD.out _).mono (by rintro e w ⟨rfl, rfl⟩; exact ⟨rfl, rfl⟩))))
        have HB6 := Lib.hid (below_dn HB5.out nq)
        have HI6 := Lib.hid (HI.out.next HB6.out)
        clear r1 r4 r5 r6 v0 v1
        go_wp2_with fail
        go_ret
        exact ⟨ret_int' HR.out, HI6.out.b, fun h => by rw [← HR.out] at h; cases h⟩
    · obtain rfl : k = u.V.length := by omega
      have HR := Lib.hid (show (0 : Int) = firstE (fitE u.G) u.V by rw [← HGO.out, List.drop_length]; rfl)
      have HI2 := Lib.hid (HI.out.next HB.out)
      go_wp2_with fail
      go_ret
      exact ⟨ret_int' HR.out, HI2.out.b, fun _ => ⟨q, HI2.out, rfl⟩⟩
end Go.Proofs.YtbiadennhnokhaaGreatDoor
/- builder.normal. -/
namespace Go.Proofs.YtbiadennhnokhaaGreatDoor
open Go.RowKit
set_option linter.unusedSimpArgs false

theorem sgs_set3 (A D : List (Sg × Value)) (x y : Sg) (v u : Value) :
    ((((sgs (A ++ (x, v) :: D)).set (A.length * 3) (.int .i64 y.1)).set (A.length * 3 + 1) (.int .i64 y.2.1)).set (A.length * 3 + 2) u) = sgs (A ++ (y, u) :: D) := by
  have h3 : (sgs A).length = A.length * 3 := by rw [sgs_len]; omega
  rw [sgs_app, sgs_app, sgs_cons, sgs_cons]
  rw [List.set_append, if_neg (by omega), h3, Nat.sub_self, List.set_append, if_neg (by omega), h3, show A.length * 3 + 1 - A.length * 3 = 1 by omega, List.set_append, if_neg (by omega), h3, show A.length * 3 + 2 - A.length * 3 = 2 by omega]
  rfl
/-- a signal of the builder is written -/
theorem BI.put3 {w W : World} {t u : Tr} {p q : TP} (h : BI w t p u q W) {A D : List (Sg × Value)} {x y : Sg} {v v' : Value} (e : q.M = A ++ (x, v) :: D) {g c : Nat} (eg : q.vg = .slice (some ⟨g, 0, none⟩) q.M.length c)
    (ho : (y, v') ∈ p.M ∨ W.ownsRow (w.heap.size + 2) 53 2 v' y.2.2.length (chs y.2.2)) :
    BI w t p { u with G := (A ++ (y, v') :: D).map Prod.fst } { q with M := A ++ (y, v') :: D } (((W.setCell ⟨g, A.length * 3, none⟩ (.int .i64 y.1)).setCell ⟨g, A.length * 3 + 1, none⟩ (.int .i64 y.2.1)).setCell ⟨g, A.length * 3 + 2, none⟩ v') := by
  obtain ⟨hx, hs, hv, hg, hc, hr, hm, hb, hk, hl0⟩ := h
  obtain ⟨vs, vv, vg, vp, M⟩ := q
  dsimp only at *
  subst e eg
  have hlo := own_lo hg (g := g) rfl
  have hne : ∀ {W : World} {e' size n : Nat} {z : Value} {xs : List Value} {o : Nat} {z' : Value}, W.ownsRow (w.heap.size + 2) e' size z n xs → z.ownBlock ≠ some g → (W.setCell ⟨g, o, none⟩ z').ownsRow (w.heap.size + 2) e' size z n xs := fun h h' => ownsRow_setCell_other (a := ⟨g, _, none⟩) h h' _
  have h1 := own_set (own_set (own_set hg (A.length * 3) (.int .i64 y.1)) (A.length * 3 + 1) (.int .i64 y.2.1)) (A.length * 3 + 2) v'
  rw [sgs_set3] at h1
  have hl : (A ++ (x, v) :: D).length = (A ++ (y, v') :: D).length := by simp
  have hgb : g ≠ w.heap.size := by omega
  have hgb2 : g ≠ w.heap.size + 1 := by omega
  refine ⟨?_, ?_, ?_, ?_, ?_, ?_, rfl, ?_, ?_, hl0⟩
  · exact ((hx.other (a := ⟨g, _, none⟩) hgb _).other (a := ⟨g, _, none⟩) hgb _).other (a := ⟨g, _, none⟩) hgb _
  · have hn := own_ne hs hg (by decide) (g := g) rfl
    exact hne (hne (hne hs hn) hn) hn
  · have hn := own_ne hv hg (by decide) (g := g) rfl
    exact hne (hne (hne hv hn) hn) hn
  · show World.ownsRow _ _ _ _ _ (A ++ (y, v') :: D).length _
    rw [← hl]; exact h1
  · intro z hz
    rcases List.mem_append.1 hz with hz | hz
    · refine (hc z (List.mem_append_left _ hz)).imp id fun h0 => ?_
      have hn := own_ne h0 hg (by decide) (g := g) rfl
      exact hne (hne (hne h0 hn) hn) hn
    · rcases List.mem_cons.1 hz with rfl | hz
      · refine ho.imp id fun h0 => ?_
        have hn := own_ne h0 hg (by decide) (g := g) rfl
        exact hne (hne (hne h0 hn) hn) hn
      · refine (hc z (List.mem_append_right _ (List.mem_cons_of_mem _ hz))).imp id fun h0 => ?_
        have hn := own_ne h0 hg (by decide) (g := g) rfl
        exact hne (hne (hne h0 hn) hn) hn
  · have hn := own_ne hr hg (by decide) (g := g) rfl
    exact hne (hne (hne hr hn) hn) hn
  · exact ((hb.setCell (p := ⟨g, _, none⟩) (by show w.heap.size ≤ g; omega) _).setCell (p := ⟨g, _, none⟩) (by show w.heap.size ≤ g; omega) _).setCell (p := ⟨g, _, none⟩) (by show w.heap.size ≤ g; omega) _
  · exact ((hk.other (a := ⟨g, _, none⟩) hgb2 _).other (a := ⟨g, _, none⟩) hgb2 _).other (a := ⟨g, _, none⟩) hgb2 _
theorem BI.vgk {w W : World} {t u : Tr} {p q : TP} (h : BI w t p u q W) : ∃ a c, q.vg = .slice a q.M.length c := by
  obtain ⟨a, c, e, -, -⟩ := (SlR.of_own h.g).shape
  exact ⟨a, c, e⟩
set_option maxHeartbeats 1600000 in
set_option maxRecDepth 100000 in
theorem tb_normal (w W : World) (t u : Tr) (p q : TP) (h : BI w t p u q W) (hgl : Glob w) (hf : ∀ s ∈ u.G, Fit s.2.2) (hl2 : u.G.length ≤ 1000) :
    Calls Tryz.prog 56 #[.pointer (some ⟨w.heap.size, 0, none⟩)] W fun e W' => StepZ w t p q.vp (normE u.G) { u with G := normL u.G } e W' := by
  have HI := Lib.hid h
  have HF := Lib.hid hf
  have c15 := h.x.cell (j := 15) rfl
  obtain ⟨ga, gc, eg⟩ := h.vgk
  have hML := h.ml
  obtain ⟨n, hn⟩ : ∃ n, q.M.length = n := ⟨_, rfl⟩
  have hn2 : n ≤ 1000 := by rw [← hn, hML]; exact hl2
  have HN := Lib.hid (show u.G.length = n by rw [← hML]; exact hn)
  rw [eg, hn] at c15
  rw [hn] at eg
  have HEG := Lib.hid eg
  have HMN := Lib.hid hn
  clear h hf hML hn eg hl2
  go_enter Tryz.func56, Tryz.ntmps56
  go_wp2_with fail
  go_loopw [13] (fun i wr => ∃ k : Nat, k ≤ n ∧ i = .int .i64 k ∧ normE (u.G.drop k) = normE u.G ∧ ∃ q', BI w t p { u with G := normL (u.G.take k) ++ u.G.drop k } q' wr ∧ q'.vg = .slice ga n gc ∧ q'.vp = q.vp) (fun i _ => n - (intOf i).toNat)
  case atStart => exact ⟨0, Nat.zero_le _, rfl, rfl, q, HI.out, HEG.out, rfl⟩
  case round =>
    obtain ⟨k, hk, rfl, hgo, q', hi, heg, hvp⟩ := hrel
    have HVP := Lib.hid hvp
    clear hvp
    have HGO := Lib.hid hgo
    have HI2 := Lib.hid hi
    have HEG2 := Lib.hid heg
    clear hgo hi heg c15
    by_cases hlt : k < n
    · have hku : k < u.G.length := by rw [HN.out]; exact hlt
      have hml := HI2.out.ml
      have hul : (normL (u.G.take k) ++ u.G.drop k).length = n := by
        rw [List.length_append, List.length_drop, HN.out]; unfold normL; rw [List.length_map, List.length_take, HN.out]; omega
      have hmn : q'.M.length = n := by rw [hml]; exact hul
      have hkm : k < q'.M.length := by rw [hmn]; exact hlt
      have hMk : q'.M[k].1 = u.G[k] := by
        have h1 : (q'.M.map Prod.fst)[k]? = some q'.M[k].1 := by rw [List.getElem?_map, List.getElem?_eq_getElem hkm]; rfl
        rw [HI2.out.m] at h1
        dsimp only at h1
        have hnl : (normL (u.G.take k)).length = k := by unfold normL; rw [List.length_map, List.length_take, HN.out]; omega
        rw [List.getElem?_append_right (by omega), hnl, Nat.sub_self, List.getElem?_drop, Nat.add_zero, List.getElem?_eq_getElem hku] at h1
        exact (Option.some.inj h1).symm
      have hsplit : q'.M = q'.M.take k ++ (q'.M[k].1, q'.M[k].2) :: q'.M.drop (k + 1) := by
        rw [← List.drop_eq_getElem_cons hkm, List.take_append_drop]
      obtain ⟨g, c, eg2, hg1, hg2, s0, s1, s2, s3⟩ := HI2.out.sg hkm
      have eg3 := HEG2.out
      rw [eg2] at eg3
      injection eg3 with eg3 _ eg4
      subst eg3 eg4
      have c15 := HI2.out.x.cell (j := 15) rfl
      rw [eg2, hmn] at c15
      have HEQ := Lib.hid eg2
      have hlow : w.heap.size < wr.heap.size := HI2.out.lt
      have hlow2 := HI2.out.lt2
      have hnl : (normL (u.G.take k)).length = k := by unfold normL; rw [List.length_map, List.length_take, HN.out]; omega
      have hA : (q'.M.take k).length = k := by rw [List.length_take]; omega
      have hAm : (q'.M.take k).map Prod.fst = normL (u.G.take k) := by
        rw [List.map_take, HI2.out.m]; dsimp only; rw [List.take_append_of_le_length (by omega), List.take_of_length_le (by omega)]
      have hDm : (q'.M.drop (k + 1)).map Prod.fst = u.G.drop (k + 1) := by
        rw [List.map_drop, HI2.out.m]; dsimp only; rw [List.drop_append, hnl, List.drop_of_length_le (by omega), List.nil_append, List.drop_drop, show k + (k + 1 - k) = k + 1 by omega]
      have HNR := Lib.hid (firstE_drop (f := fun s : Sg => (normalizeR s.1 s.2.1 s.2.2).2) hku)
      have HGK := Lib.hid (fun (y : Sg) (v : Value) (hy : y = (normalizeR u.G[k].1 u.G[k].2.1 u.G[k].2.2).1) => show (q'.M.take k ++ (y, v) :: q'.M.drop (k + 1)).map Prod.fst = normL (u.G.take (k + 1)) ++ u.G.drop (k + 1) by
        rw [List.map_append, List.map_cons, hAm, hDm, List.take_succ_eq_append_getElem hku]
        unfold normL
        rw [List.map_append, hy]
        simp)
      have hfk := HF.out _ (List.getElem_mem hku)
      rw [hMk] at s0 s1 s3 hsplit
      have HSP := Lib.hid hsplit
      have HAK := Lib.hid hA
      generalize u.G[k] = x at *
      obtain ⟨kd, wd, cl⟩ := x
      dsimp only at s0 s1 s2 s3 hfk
      generalize q'.M[k].2 = vx at *
      obtain ⟨xa, xc, rfl, -, -⟩ := s3.shape
      have hls := hfk.1
      have HBX := Lib.hid (show Below wr.heap.size wr (wr.alloc (.cells #[.int .i64 kd, .int .i64 wd, .slice xa cl.length xc] 45)) from (Below.refl _ _).alloc (Nat.le_refl _) _)
      have HSX := Lib.hid (sig_Normalize kd wd (.slice xa cl.length xc) cl (wr.alloc (.cells #[.int .i64 kd, .int .i64 wd, .slice xa cl.length xc] 45)) ((hgl.below HI2.out.b).below HBX.out) (s3.below HBX.out) hfk)
      clear hmn hkm hku hul hml hMk hsplit eg2 hAm hDm hnl s3
      go_wp2_with fail
      refine HSX.out.mono ?_
      rintro e w5 ⟨v5, rfl, ho5, hb5⟩
      obtain ⟨⟨⟨ky, wy, ly⟩, cy⟩, hny⟩ : ∃ r, r = normalizeR kd wd cl := ⟨_, rfl⟩
      rw [← hny] at ho5 HNR HGK ⊢
      have HNRR := Lib.hid hny
      clear hny
      dsimp only at ho5 ⊢
      obtain ⟨va, vc, rfl, -, -⟩ := (SlR.of_own ho5).shape
      have hX5 := HBX.out.trans (hb5.mono HBX.out.size)
      have HB5 := Lib.hid hX5
      have HO5 := Lib.hid (ownsRow_base ho5 (show w.heap.size + 2 ≤ _ by have := HBX.out.size; omega))
      have hg5 : g < w5.heap.size := Nat.lt_of_lt_of_le hg2 hX5.size
      have hw5 : w.heap.size < w5.heap.size := Nat.lt_of_lt_of_le hlow hX5.size
      rw [← hX5.cell (p := ⟨w.heap.size, 15, none⟩) hlow] at c15
      rw [← hX5.cell (p := ⟨g, k * 3, none⟩) hg2] at s0
      rw [← hX5.cell (p := ⟨g, k * 3 + 1, none⟩) hg2] at s1
      rw [← hX5.cell (p := ⟨g, k * 3 + 2, none⟩) hg2] at s2
      clear ho5 hb5 hX5 HSX HBX hA
      have HI5 := Lib.hid (HI2.out.next HB5.out)
      have HBA := Lib.hid (show Below w5.heap.size w5 (w5.alloc (.cells #[.int .i64 ky, .int .i64 wy, .slice va ly.length vc] 45)) from (Below.refl _ _).alloc (Nat.le_refl _) _)
      have HI6 := Lib.hid (HI5.out.next HBA.out)
      by_cases hcy : cy = 0
      · subst hcy
        have HG2 := Lib.hid (show normE (u.G.drop (k + 1)) = normE u.G by
          rw [← HGO.out]; have := HNR.out; rw [if_neg (by simp)] at this; exact this.symm)
        have HXF := Lib.hid (OwnRow.fresh w5 #[.int .i64 ky, .int .i64 wy, .slice va ly.length vc] 45)
        have hfz := HI6.out.g
        rw [HEQ.out] at hfz
        have HFZ := Lib.hid (own_frozen hfz)
        clear hfz
        have HOV := Lib.hid (below_own HO5.out HBA.out)
        have hg6 : g < (w5.alloc (.cells #[.int .i64 ky, .int .i64 wy, .slice va ly.length vc] 45)).heap.size := Nat.lt_of_lt_of_le hg5 HBA.out.size
        rw [← HBA.out.cell (p := ⟨w.heap.size, 15, none⟩) hw5] at c15
        rw [← HBA.out.cell (p := ⟨g, k * 3, none⟩) hg5] at s0
        rw [← HBA.out.cell (p := ⟨g, k * 3 + 1, none⟩) hg5] at s1
        rw [← HBA.out.cell (p := ⟨g, k * 3 + 2, none⟩) hg5] at s2
        have e0 := HXF.out.cell (j := 0) rfl
        have e1 := HXF.out.cell (j := 1) rfl
        have e2 := HXF.out.cell (j := 2) rfl
        have z0 := HFZ.out (k * 3)
        have z1 := HFZ.out (k * 3 + 1)
        have z2 := HFZ.out (k * 3 + 2)
        go_wp2_with fail
        generalize w5.alloc (.cells #[.int .i64 ky, .int .i64 wy, .slice va ly.length vc] 45) = w6 at *
        go_region
        clear c15 s0 s1 s2 e0 e1 e2 z0 z1 z2
        have HFIN := HI6.out.drew.put3 (y := (ky, wy, ly)) (v' := .slice va ly.length vc) HSP.out HEQ.out (Or.inr HOV.out.drew)
        rw [HAK.out] at HFIN
        have hgk := HGK.out (ky, wy, ly) (.slice va ly.length vc) rfl
        rw [hgk] at HFIN
        have HFIN := Lib.hid HFIN
        clear hgk
        go_wp2_with fail
        go_roundw
        case rel => exact ⟨k + 1, hlt, by go_num, HG2.out, _, HFIN.out, HEG2.out, HVP.out⟩
        case measure => simp [intOf]; omega
      · have bcy : (cy == 0) = false := by simpa using hcy
        have HR := Lib.hid (show cy = normE u.G by
          rw [← HGO.out]; have := HNR.out; rw [if_pos hcy] at this; exact this.symm)
        clear c15 s0 s1 s2
        go_wp2_with fail
        go_ret
        exact ⟨ret_int' HR.out, HI6.out.b, fun h => absurd (HR.out.trans h) hcy⟩
    · obtain rfl : k = n := by omega
      have HR := Lib.hid (show (0 : Int) = normE u.G by rw [← HGO.out, List.drop_of_length_le (by rw [HN.out]; exact Nat.le_refl _)]; rfl)
      have hfin := HI2.out
      rw [List.take_of_length_le (by rw [HN.out]; exact Nat.le_refl _), List.drop_of_length_le (by rw [HN.out]; exact Nat.le_refl _), List.append_nil] at hfin
      have HI3 := Lib.hid hfin
      clear hfin
      go_wp2_with fail
      go_ret
      exact ⟨ret_int' HR.out, HI3.out.b, fun _ => ⟨q', HI3.out, HVP.out⟩⟩
end Go.Proofs.YtbiadennhnokhaaGreatDoor
namespace Go.Proofs.YtbiadennhnokhaaGreatDoor
/- Plain laws of signals: parts of a signal, the values that signals hold. No program in sight. -/

theorem vv_vi {k n : Int} (h : vt k n = true) : vv k n (vi k n) = true := by
  have hv := h
  unfold vt at hv
  unfold vv vi
  rw [if_pos h, h, Bool.true_and]
  by_cases h0 : k = 0
  · subst h0
    have h1 : 1 ≤ n ∧ n ≤ 128 := by simpa using hv
    obtain ⟨j, rfl⟩ := Int.eq_ofNat_of_zero_le (show 0 ≤ n by omega)
    have hc : codeOf 120 = 2 := by decide
    have hr : allR (j : Int) 120 = ⟨(List.replicate j 120).toArray⟩ := by unfold allR; rw [if_neg (by rw [hc]; omega), Int.toNat_natCast]
    rw [if_pos rfl, if_pos rfl, hr]
    have hs : (⟨(List.replicate j (120 : UInt8)).toArray⟩ : ByteArray).size = j := by simp [ByteArray.size]
    have hb : bvIs ⟨(List.replicate j (120 : UInt8)).toArray⟩ = true := by
      unfold bvIs
      rw [hs]
      simp only [Bool.and_eq_true, decide_eq_true_iff, List.all_eq_true]
      refine ⟨⟨by omega, by omega⟩, fun c hcm => ?_⟩
      have : c = 120 := by
        have : c ∈ List.replicate j (120 : UInt8) := by simpa using hcm
        exact (List.mem_replicate.1 this).2
      rw [this, hc]; decide
    rw [hb, hs]; simp
  · rw [if_neg h0, if_neg h0]
    by_cases h1 : k = 1
    · subst h1
      rw [if_pos rfl, if_pos rfl]
      decide +kernel
    · rw [if_neg h1, if_neg h1]
      split
      · decide
      · decide
theorem val_vv {k n : Int} {l : List Ch} (h : sv k n l = true) (t : Int) : vv k n (val (vi k n) l t) = true :=
  val_mem (fun s => vv k n s = true) (vv_vi (sv_iff.1 h).1) (fun c hc => (sv_mem h c hc).2.2)
theorem vv_size {k n : Int} {s : ByteArray} (h : vv k n s = true) : s.size ≤ 1000 := by
  unfold vv at h
  have h := (Bool.and_eq_true _ _ ▸ h).2
  split at h
  · unfold bvIs at h
    simp only [Bool.and_eq_true, decide_eq_true_iff] at h
    omega
  · split at h
    · unfold decOk scanS at h
      by_cases hs : 64 < s.size
      · rw [if_pos hs] at h; cases h
      · omega
    · split at h
      · have := of_decide_eq_true h; omega
      · unfold nilB at h; have := of_decide_eq_true h; omega
end Go.Proofs.YtbiadennhnokhaaGreatDoor
