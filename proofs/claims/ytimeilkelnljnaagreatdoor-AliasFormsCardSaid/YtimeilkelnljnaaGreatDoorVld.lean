import Derived.Test.YtimeilkelnljnaaGreatDoorRd2
import Derived.Test.YtimeilkelnljnaaGreatDoorRest
namespace Go.Proofs.YtimeilkelnljnaaGreatDoor
open Go.RowKit

/-! the reference's Valid -/
/-- the rest of the derivations is valid, as the reference asks -/
def okGo (l st : List Sg) (d : List Dv) (j : Nat) : Bool := ((l.zip d).drop j).all fun p => tyS p.1 && okG p.1 st p.2
theorem okGo_step {l st : List Sg} {d : List Dv} {j : Nat} (h1 : j < l.length) (h2 : j < d.length) : okGo l st d j = ((tyS l[j] && okG l[j] st d[j]) && okGo l st d (j + 1)) := by
  have h : j < (l.zip d).length := by rw [List.length_zip]; omega
  unfold okGo
  rw [List.drop_eq_getElem_cons h, List.all_cons, List.getElem_zip]
theorem okGo_end {l st : List Sg} {d : List Dv} (h : d.length = l.length) : okGo l st d l.length = true := by
  unfold okGo
  rw [List.drop_eq_nil_of_le (by rw [List.length_zip]; omega)]
  rfl
theorem okGo_all {l st : List Sg} {d : List Dv} (h : d.length = l.length) : okGo l st d 0 = (l.all tyS && (l.zip d).all fun p => fitsR p.1 st p.2) := by
  unfold okGo
  rw [List.drop_zero]
  have e : l.all tyS = (l.zip d).all fun p => tyS p.1 := by
    conv => lhs; rw [← List.map_fst_zip (l₁ := l) (l₂ := d) (by omega)]
    rw [List.all_map]
    rfl
  rw [e]
  generalize l.zip d = z
  clear e h
  induction z with
  | nil => rfl
  | cons p z ih =>
    rw [List.all_cons, List.all_cons, List.all_cons, ih, okG_eq]
    cases tyS p.1 <;> cases fitsR p.1 st p.2 <;> simp
theorem validR_ok {l st : List Sg} {d : List Dv} (h1 : l.length ≤ 64) (h2 : st.length ≤ 64) (h3 : d.length = l.length) (h4 : st.all tyS = true) : validR l st d = okGo l st d 0 := by
  rw [okGo_all h3]
  unfold validR
  rw [decide_eq_true h1, decide_eq_true h2, decide_eq_true h3, h4]
  simp
theorem validR_no {l st : List Sg} {d : List Dv} (h : ¬ (l.length ≤ 64 ∧ st.length ≤ 64 ∧ d.length = l.length)) : validR l st d = false := by
  cases hv : validR l st d with
  | false => rfl
  | true => obtain ⟨a, b, c, -⟩ := valid_parts hv; exact absurd ⟨a, b, c⟩ h
theorem validR_st {l st : List Sg} {d : List Dv} (h : st.all tyS = false) : validR l st d = false := by
  unfold validR
  rw [h]
  simp
theorem okG_no1 {s : Sg} {st : List Sg} {d : Dv} (h : d.1 < -1) : okG s st d = false := by
  unfold okG; rw [decide_eq_true h]; simp
theorem okG_no2 {s : Sg} {st : List Sg} {d : Dv} (h : (st.length : Int) ≤ d.1) : okG s st d = false := by
  unfold okG; rw [decide_eq_true h]; simp
theorem okG_minus {s : Sg} {st : List Sg} {f : Int} {i : Bool} : okG s st (-1, f, i) = (decide (f = 0) && !i) := by
  unfold okG
  have h : decide ((st.length : Int) ≤ -1) = false := by rw [decide_eq_false_iff_not]; omega
  dsimp only
  rw [h]
  cases i <;> simp
theorem okG_of {s : Sg} {st : List Sg} {k : Nat} {f : Int} {i : Bool} (h : k < st.length) : okG s st ((k : Int), f, i) = possR ((k : Int), f, i) s (sgAt st k) := by
  unfold okG
  have h1 : decide ((k : Int) < -1) = false := by rw [decide_eq_false_iff_not]; omega
  have h2 : decide ((st.length : Int) ≤ (k : Int)) = false := by rw [decide_eq_false_iff_not]; omega
  have h3 : decide ((k : Int) = -1) = false := by rw [decide_eq_false_iff_not]; omega
  have h4 : decide (0 ≤ (k : Int)) = true := by rw [decide_eq_true_iff]; omega
  dsimp only
  rw [h1, h2, h3, h4, Int.toNat_natCast]
  cases possR ((k : Int), f, i) s (sgAt st k) <;> simp

set_option linter.unusedSimpArgs false in
set_option maxHeartbeats 3200000 in
set_option maxRecDepth 100000 in
theorem ref_Valid29 (v v2 v3 : Value) (L S : List (Sg × Value)) (D : List Dv) (w : World) (hs : Sigs w v L) (ht : Sigs w v2 S) (hd : SlR w v3 D.length (dvs D)) :
    Calls Tryz.prog 19 #[v, v2, v3] w fun e w' => e = .returned (.bool (validR (L.map Prod.fst) (S.map Prod.fst) D)) ∧ Below w.heap.size w w' := by
  obtain ⟨a, cap, rfl, hc, hm⟩ := hs.s.shape
  obtain ⟨a2, cap2, rfl, hc2, hm2⟩ := ht.s.shape
  obtain ⟨a3, cap3, rfl, hc3, hm3⟩ := hd.shape
  have HS := Lib.hid hs
  have HT := Lib.hid ht
  have HD := Lib.hid hd
  clear hs ht hd hm hm2 hm3
  by_cases h1 : ¬ (L.length ≤ 64 ∧ S.length ≤ 64 ∧ D.length = L.length)
  · have HR := Lib.hid (show false = validR (L.map Prod.fst) (S.map Prod.fst) D from (validR_no (by rw [List.length_map, List.length_map]; exact h1)).symm)
    by_cases a1 : L.length ≤ 64
    · have b1 : decide ((L.length : Int) > 64) = false := by rw [decide_eq_false_iff_not]; omega
      by_cases a2 : S.length ≤ 64
      · have b2 : decide ((S.length : Int) > 64) = false := by rw [decide_eq_false_iff_not]; omega
        have b3 : ((D.length : Int) != (L.length : Int)) = true := by rw [bne_iff_ne]; omega
        clear h1
        go_enter Tryz.func19, Tryz.ntmps19
        go_wp2_with fail
        go_ret
        exact ⟨ret_bool HR.out, Below.refl _ _⟩
      · have b2 : decide ((S.length : Int) > 64) = true := by rw [decide_eq_true_iff]; omega
        clear h1
        go_enter Tryz.func19, Tryz.ntmps19
        go_wp2_with fail
        go_ret
        exact ⟨ret_bool HR.out, Below.refl _ _⟩
    · have b1 : decide ((L.length : Int) > 64) = true := by rw [decide_eq_true_iff]; omega
      clear h1
      go_enter Tryz.func19, Tryz.ntmps19
      go_wp2_with fail
      go_ret
      exact ⟨ret_bool HR.out, Below.refl _ _⟩
  obtain ⟨a1, a2, hdl⟩ := Classical.not_not.1 h1
  have b1 : decide ((L.length : Int) > 64) = false := by rw [decide_eq_false_iff_not]; omega
  have b2 : decide ((S.length : Int) > 64) = false := by rw [decide_eq_false_iff_not]; omega
  have b3 : ((D.length : Int) != (L.length : Int)) = false := by rw [hdl]; simp
  have HDL := Lib.hid hdl
  clear h1 hdl
  go_enter Tryz.func19, Tryz.ntmps19
  go_wp2_with fail
  clear b1 b2 b3
  go_loopw [7] (fun i wr => ∃ (j : Nat), j ≤ S.length ∧ i = .int .i64 j ∧ ((S.drop j).all fun x => tyS x.1) = (S.all fun x => tyS x.1) ∧ Below w.heap.size w wr) (fun i _ => S.length - (intOf i).toNat)
  case atStart => exact ⟨0, Nat.zero_le _, rfl, rfl, Below.refl _ _⟩
  case round =>
    obtain ⟨j, hj, rfl, hgo, hb⟩ := hrel
    have HGO := Lib.hid hgo
    have HB := Lib.hid hb
    clear hgo hb
    by_cases hlt : j < S.length
    · obtain ⟨b, o, rfl, y0, y1, y2, hy⟩ := (HT.out.below HB.out).at hlt
      have HGO2 := Lib.hid ((show ((S.drop j).all fun x => tyS x.1) = (tyS S[j].1 && (S.drop (j + 1)).all fun x => tyS x.1) by rw [List.drop_eq_getElem_cons hlt, List.all_cons]).symm.trans HGO.out)
      generalize S[j] = x at y0 y1 y2 hy HGO2
      obtain ⟨⟨xk, xn, xl⟩, xv⟩ := x
      dsimp only at y0 y1 y2 hy HGO2
      have HV := Lib.hid (fun W => (ref_ValidType xk xn W).mono (fun _ _ (h : _ ∧ _) => And.intro h.1 h.2.symm))
      rw [show vt xk xn = tyS (xk, xn, xl) from rfl] at HV
      cases hv : tyS (xk, xn, xl)
      · rw [hv] at HV HGO2
        have HR := Lib.hid (show false = validR (L.map Prod.fst) (S.map Prod.fst) D from (validR_st (by rw [List.all_map]; exact HGO2.out.symm)).symm)
        clear hv hy
        go_wp2_with fail
        go_quiet ((go_at_call 49; exact Calls.quiet_of_same (HV.out _)))
        go_wp2_with fail
        go_ret
        exact ⟨ret_bool HR.out, below_drewN HB.out _⟩
      · rw [hv] at HV HGO2
        have HGO3 := Lib.hid (show ((S.drop (j + 1)).all fun x => tyS x.1) = (S.all fun x => tyS x.1) by rw [← HGO2.out, Bool.true_and])
        clear hv hy
        go_wp2_with fail
        go_quiet ((go_at_call 49; exact Calls.quiet_of_same (HV.out _)))
        go_wp2_with fail
        go_roundw
        case rel => exact ⟨j + 1, by omega, by go_num, HGO3.out, below_drewN HB.out _⟩
        case measure => simp [intOf]; omega
    · obtain rfl : j = S.length := by omega
      have HALL := Lib.hid (show (S.all fun x => tyS x.1) = true by rw [← HGO.out, List.drop_length]; rfl)
      have HVR := Lib.hid (show validR (L.map Prod.fst) (S.map Prod.fst) D = okGo (L.map Prod.fst) (S.map Prod.fst) D 0 from validR_ok (by rw [List.length_map]; exact a1) (by rw [List.length_map]; exact a2) (by rw [List.length_map]; exact HDL.out) (by rw [List.all_map]; exact HALL.out))
      go_wp2_with fail
      go_loopw [8] (fun i wr => ∃ (j : Nat), j ≤ L.length ∧ i = .int .i64 j ∧ okGo (L.map Prod.fst) (S.map Prod.fst) D j = validR (L.map Prod.fst) (S.map Prod.fst) D ∧ Below w.heap.size w wr) (fun i _ => L.length - (intOf i).toNat)
      case atStart => exact ⟨0, Nat.zero_le _, rfl, HVR.out.symm, HB.out⟩
      case round =>
        obtain ⟨j, hj, rfl, hgo, hb⟩ := hrel
        have HGO := Lib.hid hgo
        have HBJ := Lib.hid hb
        clear hgo hb HB HVR
        by_cases hlt : j < L.length
        · have hltd : j < D.length := by rw [HDL.out]; exact hlt
          obtain ⟨b, o, rfl, y0, y1, y2, hy⟩ := (HS.out.below HBJ.out).at hlt
          obtain ⟨b4, o4, rfl, g0, g1, g2⟩ := dv_at (HD.out.below HBJ.out) hltd
          have HGO2 := Lib.hid ((okGo_step (l := L.map Prod.fst) (st := S.map Prod.fst) (by simpa using hlt) hltd).symm.trans HGO.out)
          rw [List.getElem_map] at HGO2
          generalize L[j] = x at y0 y1 y2 hy HGO2
          generalize D[j] = d at g0 g1 g2 HGO2
          obtain ⟨⟨xk, xn, xl⟩, xv⟩ := x
          obtain ⟨d0, d1, d2⟩ := d
          dsimp only at y0 y1 y2 hy HGO2 g0 g1 g2
          obtain ⟨xa, xc, rfl, -, -⟩ := hy.shape
          have HV := Lib.hid (fun W => (ref_ValidType xk xn W).mono (fun _ _ (h : _ ∧ _) => And.intro h.1 h.2.symm))
          rw [show vt xk xn = tyS (xk, xn, xl) from rfl] at HV
          have hbx := OwnRow.fresh wr #[.int .i64 d0, .int .i64 d1, .bool d2] 34
          have HB5 := Lib.hid (HBJ.out.alloc HBJ.out.size (.cells #[.int .i64 d0, .int .i64 d1, .bool d2] 34))
          have q0 := hbx.cell (j := 0) rfl
          have q1 := hbx.cell (j := 1) rfl
          have q2 := hbx.cell (j := 2) rfl
          have z0 := cell_alloc y0 (.cells #[.int .i64 d0, .int .i64 d1, .bool d2] 34)
          have z1 := cell_alloc y1 (.cells #[.int .i64 d0, .int .i64 d1, .bool d2] 34)
          have z2 := cell_alloc y2 (.cells #[.int .i64 d0, .int .i64 d1, .bool d2] 34)
          have hy5 := hy.below ((Below.refl _ _).alloc (Nat.le_refl _) (.cells #[.int .i64 d0, .int .i64 d1, .bool d2] 34))
          go_upto_region 12 with fail
          generalize wr.alloc (.cells #[.int .i64 d0, .int .i64 d1, .bool d2] 34) = w5 at HB5 q0 q1 q2 z0 z1 z2 hbx hy5 ⊢
          generalize wr.heap.size = B9 at q0 q1 q2 hbx ⊢
          clear y0 y1 y2 hy g0 g1 g2 HBJ
          cases hv : tyS (xk, xn, xl)
          · rw [hv] at HV HGO2
            have HR := Lib.hid (show false = validR (L.map Prod.fst) (S.map Prod.fst) D by rw [← HGO2.out]; rfl)
            clear hv hy5 hbx
            go_quiet ((go_at_call 49; exact Calls.quiet_of_same (HV.out _)))
            go_wp2_with fail
            go_ret
            exact ⟨ret_bool HR.out, below_drewN HB5.out _⟩
          rw [hv] at HV HGO2
          have hwx := ty_width hv
          by_cases hd1 : d0 < -1
          · have HR := Lib.hid (show false = validR (L.map Prod.fst) (S.map Prod.fst) D by rw [← HGO2.out, okG_no1 hd1]; rfl)
            have hdb : decide (d0 < -1) = true := by rw [decide_eq_true_iff]; exact hd1
            clear hv hy5 hbx hd1
            go_quiet ((go_at_call 49; exact Calls.quiet_of_same (HV.out _)))
            go_wp2_with fail
            go_ret
            exact ⟨ret_bool HR.out, below_drewN HB5.out _⟩
          have hdb : decide (d0 < -1) = false := by rw [decide_eq_false_iff_not]; exact hd1
          by_cases hd2 : (S.length : Int) ≤ d0
          · have HR := Lib.hid (show false = validR (L.map Prod.fst) (S.map Prod.fst) D by rw [← HGO2.out, okG_no2 (by rw [List.length_map]; exact hd2)]; rfl)
            have hdb2 : decide (d0 ≥ (S.length : Int)) = true := by rw [decide_eq_true_iff]; exact hd2
            clear hv hy5 hbx hd1 hd2
            go_quiet ((go_at_call 49; exact Calls.quiet_of_same (HV.out _)))
            go_wp2_with fail
            go_ret
            exact ⟨ret_bool HR.out, below_drewN HB5.out _⟩
          have hdb2 : decide (d0 ≥ (S.length : Int)) = false := by rw [decide_eq_false_iff_not]; exact hd2
          by_cases hm1 : d0 = -1
          · subst hm1
            by_cases hf : d1 = 0
            · subst hf
              cases d2
              · have HGO3 := Lib.hid (show okGo (L.map Prod.fst) (S.map Prod.fst) D (j + 1) = validR (L.map Prod.fst) (S.map Prod.fst) D by rw [← HGO2.out, okG_minus]; rfl)
                clear hv hy5 hbx hd1 hd2 hdb
                go_quiet ((go_at_call 49; exact Calls.quiet_of_same (HV.out _)))
                go_wp2_with fail
                go_quiet (fail)
                go_wp2_with fail
                go_roundw
                case rel => exact ⟨j + 1, by omega, by go_num, HGO3.out, below_drewN HB5.out _⟩
                case measure => simp [intOf]; omega
              · have HR := Lib.hid (show false = validR (L.map Prod.fst) (S.map Prod.fst) D by rw [← HGO2.out, okG_minus]; rfl)
                clear hv hy5 hbx hd1 hd2 hdb
                go_quiet ((go_at_call 49; exact Calls.quiet_of_same (HV.out _)))
                go_wp2_with fail
                go_quiet (fail)
                go_wp2_with fail
                go_ret
                exact ⟨ret_bool HR.out, below_drewN (below_drewN HB5.out _) _⟩
            · have HR := Lib.hid (show false = validR (L.map Prod.fst) (S.map Prod.fst) D by rw [← HGO2.out, okG_minus, decide_eq_false hf]; rfl)
              have hfb : (d1 != 0) = true := by rw [bne_iff_ne]; exact hf
              clear hv hy5 hbx hd1 hd2 hdb hf
              go_quiet ((go_at_call 49; exact Calls.quiet_of_same (HV.out _)))
              go_wp2_with fail
              go_quiet (fail)
              go_wp2_with fail
              go_ret
              exact ⟨ret_bool HR.out, below_drewN (below_drewN HB5.out _) _⟩
          · obtain ⟨kk, rfl⟩ : ∃ kk : Nat, d0 = (kk : Int) := ⟨d0.toNat, by omega⟩
            have hkk : kk < S.length := by omega
            have HGK := Lib.hid (show (true && possR ((kk : Int), d1, d2) (xk, xn, xl) (sgAt (S.map Prod.fst) kk) && okGo (L.map Prod.fst) (S.map Prod.fst) D (j + 1)) = validR (L.map Prod.fst) (S.map Prod.fst) D by rw [← HGO2.out, okG_of (by rw [List.length_map]; exact hkk)])
            have hmb : ((kk : Int) == -1) = false := by rw [beq_eq_false_iff_ne]; omega
            have h0b : decide ((kk : Int) ≥ 0) = true := by rw [decide_eq_true_iff]; omega
            clear hm1 hd1 hd2
            go_quiet ((go_at_call 49; exact Calls.quiet_of_same (HV.out _)))
            go_wp2_with fail
            have HB6 := Lib.hid (below_drewN HB5.out nq)
            obtain ⟨b2, o2, rfl, s0, s1, s2, hs⟩ := (HT.out.below HB6.out).at hkk
            have hsg : sgAt (S.map Prod.fst) kk = S[kk].1 := by rw [sgAt_lt (by simpa using hkk)]; simp
            have hts := List.all_eq_true.1 HALL.out _ (List.getElem_mem hkk)
            rw [hsg] at HGK
            clear hsg HGO2
            generalize S[kk] = y at s0 s1 s2 hs hts HGK
            obtain ⟨⟨qk, qn, ql⟩, qv⟩ := y
            dsimp only at s0 s1 s2 hs hts HGK
            obtain ⟨qa, qc, rfl, -, -⟩ := hs.shape
            have hwq := ty_width hts
            have HPS := Lib.hid (fun W => ref_possible ((kk : Int), d1, d2) (xk, xn, xl) (qk, qn, ql) (.slice xa xl.length xc) (.slice qa ql.length qc) W ⟨_, _, _, rfl⟩ ⟨_, _, _, rfl⟩ hwx hwq)
            have q0' : (w5.drewN nq).cell? ⟨B9, 0, none⟩ = some (.int .i64 (kk : Int)) := by simpa using q0
            have q1' : (w5.drewN nq).cell? ⟨B9, 1, none⟩ = some (.int .i64 d1) := by simpa using q1
            have q2' : (w5.drewN nq).cell? ⟨B9, 2, none⟩ = some (.bool d2) := by simpa using q2
            have z0' : (w5.drewN nq).cell? ⟨b, o + j * 3, none⟩ = some (.int .i64 xk) := by simpa using z0
            have z1' : (w5.drewN nq).cell? ⟨b, o + j * 3 + 1, none⟩ = some (.int .i64 xn) := by simpa using z1
            have z2' : (w5.drewN nq).cell? ⟨b, o + j * 3 + 2, none⟩ = some (.slice xa xl.length xc) := by simpa using z2
            generalize possR ((kk : Int), d1, d2) (xk, xn, xl) (qk, qn, ql) = pb at HPS HGK
            generalize w5.drewN nq = w6 at HB6 s0 s1 s2 hs q0' q1' q2' z0' z1' z2' ⊢
            have hc0 := cell_lt q0'
            have hc1 := cell_lt z0'
            have hc2 := cell_lt s0
            have HCS := Lib.hid (And.intro q0' (And.intro q1' (And.intro q2' (And.intro z0' (And.intro z1' (And.intro z2' (And.intro s0 (And.intro s1 s2))))))))
            clear q0 q1 q2 z0 z1 z2 hy5 hbx hs hv
            refine wp_region_held_drew (S := (fun w' => w'.cell? ⟨B9, 0, none⟩ = some (.int .i64 (kk : Int)) ∧ w'.cell? ⟨B9, 1, none⟩ = some (.int .i64 d1) ∧ w'.cell? ⟨B9, 2, none⟩ = some (.bool d2) ∧ w'.cell? ⟨b, o + j * 3, none⟩ = some (.int .i64 xk) ∧ w'.cell? ⟨b, o + j * 3 + 1, none⟩ = some (.int .i64 xn) ∧ w'.cell? ⟨b, o + j * 3 + 2, none⟩ = some (.slice xa xl.length xc) ∧ w'.cell? ⟨b2, o2 + kk * 3, none⟩ = some (.int .i64 qk) ∧ w'.cell? ⟨b2, o2 + kk * 3 + 1, none⟩ = some (.int .i64 qn) ∧ w'.cell? ⟨b2, o2 + kk * 3 + 2, none⟩ = some (.slice qa ql.length qc))) (by kernel_rfl) ⟨q0', q1', q2', z0', z1', z2', s0, s1, s2⟩ (fun hHeld => ?_)
            clear q0' q1' q2' z0' z1' z2' s0 s1 s2
            refine wpAnyH_take (i := 0) (v := ?_) rfl (by kernel_rfl) (by kernel_rfl) (by kernel_rfl) (fun _ _ _ h => h) (Or.inl ⟨by rfl, ?_⟩) hHeld ?_
            rotate_left
            · intro w hSw
              (try dsimp only at hSw)
              go_simp
              all_goals with_reducible rfl
            simp only [Act.put, List.getElem_toArray, List.getElem_cons_succ, List.getElem_cons_zero, List.setIfInBounds_toArray, List.set_cons_zero, List.set_cons_succ]
            refine wpAnyH_take (i := 1) (v := ?_) rfl (by kernel_rfl) (by kernel_rfl) (by kernel_rfl) (fun _ _ _ h => h) (Or.inl ⟨by rfl, ?_⟩) hHeld ?_
            rotate_left
            · intro w hSw
              (try dsimp only at hSw)
              go_simp
              all_goals with_reducible rfl
            simp only [Act.put, List.getElem_toArray, List.getElem_cons_succ, List.getElem_cons_zero, List.setIfInBounds_toArray, List.set_cons_zero, List.set_cons_succ]
            refine wpAnyH_take (i := 2) (v := .bool false) rfl (by kernel_rfl) (by kernel_rfl) (by kernel_rfl) (fun _ _ _ h => h) (Or.inl ⟨by rfl, ?_⟩) hHeld ?_
            · intro w hSw
              (try dsimp only at hSw)
              go_simp
              all_goals with_reducible rfl
            simp only [Act.put, List.getElem_toArray, List.getElem_cons_succ, List.getElem_cons_zero, List.setIfInBounds_toArray, List.set_cons_zero, List.set_cons_succ]
            refine wpAnyH_take (i := 3) (v := .bool false) rfl (by kernel_rfl) (by kernel_rfl) (by kernel_rfl) (fun _ _ _ h => h) (Or.inl ⟨by rfl, ?_⟩) hHeld ?_
            · intro w hSw
              (try dsimp only at hSw)
              go_simp
              all_goals with_reducible rfl
            simp only [Act.put, List.getElem_toArray, List.getElem_cons_succ, List.getElem_cons_zero, List.setIfInBounds_toArray, List.set_cons_zero, List.set_cons_succ]
            refine wpAnyH_take (i := 4) (v := undef) rfl (by kernel_rfl) (by kernel_rfl) (by kernel_rfl) (fun _ _ _ h => h) (Or.inr ⟨by rfl, rfl⟩) hHeld ?_
            simp only [Act.put, List.getElem_toArray, List.getElem_cons_succ, List.getElem_cons_zero, List.setIfInBounds_toArray, List.set_cons_zero, List.set_cons_succ]
            refine wpAnyH_take (i := 5) (v := undef) rfl (by kernel_rfl) (by kernel_rfl) (by kernel_rfl) (fun _ _ _ h => h) (Or.inr ⟨by rfl, rfl⟩) hHeld ?_
            simp only [Act.put, List.getElem_toArray, List.getElem_cons_succ, List.getElem_cons_zero, List.setIfInBounds_toArray, List.set_cons_zero, List.set_cons_succ]
            refine wpAnyH_take (i := 6) (v := undef) rfl (by kernel_rfl) (by kernel_rfl) (by kernel_rfl) (fun _ _ _ h => h) (Or.inr ⟨by rfl, rfl⟩) hHeld ?_
            simp only [Act.put, List.getElem_toArray, List.getElem_cons_succ, List.getElem_cons_zero, List.setIfInBounds_toArray, List.set_cons_zero, List.set_cons_succ]
            refine wpAnyH_take (i := 7) (v := undef) rfl (by kernel_rfl) (by kernel_rfl) (by kernel_rfl) (fun _ _ _ h => h) (Or.inr ⟨by rfl, rfl⟩) hHeld ?_
            simp only [Act.put, List.getElem_toArray, List.getElem_cons_succ, List.getElem_cons_zero, List.setIfInBounds_toArray, List.set_cons_zero, List.set_cons_succ]
            refine wpAnyH_take (i := 8) (v := undef) rfl (by kernel_rfl) (by kernel_rfl) (by kernel_rfl) (fun _ _ _ h => h) (Or.inr ⟨by rfl, rfl⟩) hHeld ?_
            simp only [Act.put, List.getElem_toArray, List.getElem_cons_succ, List.getElem_cons_zero, List.setIfInBounds_toArray, List.set_cons_zero, List.set_cons_succ]
            refine wpAnyH_take (i := 9) (v := undef) rfl (by kernel_rfl) (by kernel_rfl) (by kernel_rfl) (fun _ _ _ h => h) (Or.inr ⟨by rfl, rfl⟩) hHeld ?_
            simp only [Act.put, List.getElem_toArray, List.getElem_cons_succ, List.getElem_cons_zero, List.setIfInBounds_toArray, List.set_cons_zero, List.set_cons_succ]
            refine wpAnyH_take (i := 10) (v := undef) rfl (by kernel_rfl) (by kernel_rfl) (by kernel_rfl) (fun _ _ _ h => h) (Or.inr ⟨by rfl, rfl⟩) hHeld ?_
            simp only [Act.put, List.getElem_toArray, List.getElem_cons_succ, List.getElem_cons_zero, List.setIfInBounds_toArray, List.set_cons_zero, List.set_cons_succ]
            refine wpAnyH_take (i := 11) (v := .bool false) rfl (by kernel_rfl) (by kernel_rfl) (by kernel_rfl) (fun _ _ _ h => h) (Or.inl ⟨by rfl, ?_⟩) hHeld ?_
            · intro w hSw
              (try dsimp only at hSw)
              go_simp
              all_goals with_reducible rfl
            simp only [Act.put, List.getElem_toArray, List.getElem_cons_succ, List.getElem_cons_zero, List.setIfInBounds_toArray, List.set_cons_zero, List.set_cons_succ]
            refine wpAnyH_take (i := 12) (v := .bool false) rfl (by kernel_rfl) (by kernel_rfl) (by kernel_rfl) (fun _ _ _ h => h) (Or.inl ⟨by rfl, ?_⟩) hHeld ?_
            · intro w hSw
              (try dsimp only at hSw)
              go_simp
              all_goals with_reducible rfl
            simp only [Act.put, List.getElem_toArray, List.getElem_cons_succ, List.getElem_cons_zero, List.setIfInBounds_toArray, List.set_cons_zero, List.set_cons_succ]
            refine wpAnyH_take (i := 13) (v := ?_) rfl (by kernel_rfl) (by kernel_rfl) (by kernel_rfl) (fun _ _ _ h => h) (Or.inl ⟨by rfl, ?_⟩) hHeld ?_
            rotate_left
            · intro w hSw
              (try dsimp only at hSw)
              go_simp
              all_goals with_reducible rfl
            simp only [Act.put, List.getElem_toArray, List.getElem_cons_succ, List.getElem_cons_zero, List.setIfInBounds_toArray, List.set_cons_zero, List.set_cons_succ]
            refine wpAnyH_take (i := 14) (v := ?_) rfl (by kernel_rfl) (by kernel_rfl) (by kernel_rfl) (fun _ _ _ h => h) (Or.inl ⟨by rfl, ?_⟩) hHeld ?_
            rotate_left
            · intro w hSw
              (try dsimp only at hSw)
              go_simp
              all_goals with_reducible rfl
            simp only [Act.put, List.getElem_toArray, List.getElem_cons_succ, List.getElem_cons_zero, List.setIfInBounds_toArray, List.set_cons_zero, List.set_cons_succ]
            refine wpAnyH_take (i := 15) (v := .bool true) rfl (by kernel_rfl) (by kernel_rfl) (by kernel_rfl) (fun _ _ _ h => h) (Or.inl ⟨by rfl, ?_⟩) hHeld ?_
            · intro w hSw
              (try dsimp only at hSw)
              go_simp
              all_goals with_reducible rfl
            simp only [Act.put, List.getElem_toArray, List.getElem_cons_succ, List.getElem_cons_zero, List.setIfInBounds_toArray, List.set_cons_zero, List.set_cons_succ]
            refine wpAnyH_take (i := 16) (v := .bool true) rfl (by kernel_rfl) (by kernel_rfl) (by kernel_rfl) (fun _ _ _ h => h) (Or.inl ⟨by rfl, ?_⟩) hHeld ?_
            · intro w hSw
              (try dsimp only at hSw)
              go_simp
              all_goals with_reducible rfl
            simp only [Act.put, List.getElem_toArray, List.getElem_cons_succ, List.getElem_cons_zero, List.setIfInBounds_toArray, List.set_cons_zero, List.set_cons_succ]
            refine wpAnyH_take (i := 17) (v := ?_) rfl (by kernel_rfl) (by kernel_rfl) (by kernel_rfl) (fun _ _ _ h => h) (Or.inl ⟨by rfl, ?_⟩) hHeld ?_
            rotate_left
            · intro w hSw
              (try dsimp only at hSw)
              go_simp
              all_goals with_reducible rfl
            simp only [Act.put, List.getElem_toArray, List.getElem_cons_succ, List.getElem_cons_zero, List.setIfInBounds_toArray, List.set_cons_zero, List.set_cons_succ]
            refine wpAnyH_take (i := 18) (v := ?_) rfl (by kernel_rfl) (by kernel_rfl) (by kernel_rfl) (fun _ _ _ h => h) (Or.inl ⟨by rfl, ?_⟩) hHeld ?_
            rotate_left
            · intro w hSw
              (try dsimp only at hSw)
              go_simp
              all_goals with_reducible rfl
            simp only [Act.put, List.getElem_toArray, List.getElem_cons_succ, List.getElem_cons_zero, List.setIfInBounds_toArray, List.set_cons_zero, List.set_cons_succ]
            refine wpAnyH_take (i := 19) (v := ?_) rfl (by kernel_rfl) (by kernel_rfl) (by kernel_rfl) (fun _ _ _ h => h) (Or.inl ⟨by rfl, ?_⟩) hHeld ?_
            rotate_left
            · intro w hSw
              (try dsimp only at hSw)
              go_simp
              all_goals with_reducible rfl
            simp only [Act.put, List.getElem_toArray, List.getElem_cons_succ, List.getElem_cons_zero, List.setIfInBounds_toArray, List.set_cons_zero, List.set_cons_succ]
            refine wpAnyH_take (i := 20) (v := ?_) rfl (by kernel_rfl) (by kernel_rfl) (by kernel_rfl) (fun _ _ _ h => h) (Or.inl ⟨by rfl, ?_⟩) hHeld ?_
            rotate_left
            · intro w hSw
              (try dsimp only at hSw)
              go_simp
              all_goals with_reducible rfl
            simp only [Act.put, List.getElem_toArray, List.getElem_cons_succ, List.getElem_cons_zero, List.setIfInBounds_toArray, List.set_cons_zero, List.set_cons_succ]
            refine wpAnyH_take (i := 21) (v := ?_) rfl (by kernel_rfl) (by kernel_rfl) (by kernel_rfl) (fun _ _ _ h => h) (Or.inl ⟨by rfl, ?_⟩) hHeld ?_
            rotate_left
            · intro w hSw
              (try dsimp only at hSw)
              go_simp
              all_goals with_reducible rfl
            simp only [Act.put, List.getElem_toArray, List.getElem_cons_succ, List.getElem_cons_zero, List.setIfInBounds_toArray, List.set_cons_zero, List.set_cons_succ]
            refine wpAnyH_take (i := 22) (v := ?_) rfl (by kernel_rfl) (by kernel_rfl) (by kernel_rfl) (fun _ _ _ h => h) (Or.inl ⟨by rfl, ?_⟩) hHeld ?_
            rotate_left
            · intro w hSw
              (try dsimp only at hSw)
              go_simp
              all_goals with_reducible rfl
            simp only [Act.put, List.getElem_toArray, List.getElem_cons_succ, List.getElem_cons_zero, List.setIfInBounds_toArray, List.set_cons_zero, List.set_cons_succ]
            refine wpAnyH_take (i := 23) (v := ?_) rfl (by kernel_rfl) (by kernel_rfl) (by kernel_rfl) (fun _ _ _ h => h) (Or.inl ⟨by rfl, ?_⟩) hHeld ?_
            rotate_left
            · intro w hSw
              (try dsimp only at hSw)
              go_simp
              all_goals with_reducible rfl
            simp only [Act.put, List.getElem_toArray, List.getElem_cons_succ, List.getElem_cons_zero, List.setIfInBounds_toArray, List.set_cons_zero, List.set_cons_succ]
            refine wpAnyH_take (i := 24) (v := ?_) rfl (by kernel_rfl) (by kernel_rfl) (by kernel_rfl) (fun _ _ _ h => h) (Or.inl ⟨by rfl, ?_⟩) hHeld ?_
            rotate_left
            · intro w hSw
              (try dsimp only at hSw)
              go_simp
              all_goals with_reducible rfl
            simp only [Act.put, List.getElem_toArray, List.getElem_cons_succ, List.getElem_cons_zero, List.setIfInBounds_toArray, List.set_cons_zero, List.set_cons_succ]
            refine wpAnyH_take (i := 25) (v := ?_) rfl (by kernel_rfl) (by kernel_rfl) (by kernel_rfl) (fun _ _ _ h => h) (Or.inl ⟨by rfl, ?_⟩) hHeld ?_
            rotate_left
            · intro w hSw
              (try dsimp only at hSw)
              go_simp
              all_goals with_reducible rfl
            simp only [Act.put, List.getElem_toArray, List.getElem_cons_succ, List.getElem_cons_zero, List.setIfInBounds_toArray, List.set_cons_zero, List.set_cons_succ]
            refine wpAnyH_take (i := 26) (v := ?_) rfl (by kernel_rfl) (by kernel_rfl) (by kernel_rfl) (fun _ _ _ h => h) (Or.inl ⟨by rfl, ?_⟩) hHeld ?_
            rotate_left
            · intro w hSw
              (try dsimp only at hSw)
              go_simp
              all_goals with_reducible rfl
            simp only [Act.put, List.getElem_toArray, List.getElem_cons_succ, List.getElem_cons_zero, List.setIfInBounds_toArray, List.set_cons_zero, List.set_cons_succ]
            refine wpAnyH_ready (rs := [27]) (by kernel_rfl) (by simp) ?_
            refine AllReadyH.cons (o := _) rfl (fun K hK => ?_) AllReadyH.nil
            go_simp
            refine (HPS.out _).mono ?_
            rintro e w8 ⟨rfl, hb8'⟩
            have hb9 := below_undrew hb8'
            have HB8 := Lib.hid (ext_trans HB6.out hb9)
            have v0 := (hb9.cell (p := ⟨B9, 0, none⟩) hc0).trans HCS.out.1
            have v1 := (hb9.cell (p := ⟨B9, 1, none⟩) hc0).trans HCS.out.2.1
            have v2 := (hb9.cell (p := ⟨B9, 2, none⟩) hc0).trans HCS.out.2.2.1
            have v3 := (hb9.cell (p := ⟨b, o + j * 3, none⟩) hc1).trans HCS.out.2.2.2.1
            have v4 := (hb9.cell (p := ⟨b, o + j * 3 + 1, none⟩) hc1).trans HCS.out.2.2.2.2.1
            have v5 := (hb9.cell (p := ⟨b, o + j * 3 + 2, none⟩) hc1).trans HCS.out.2.2.2.2.2.1
            have v6 := (hb9.cell (p := ⟨b2, o2 + kk * 3, none⟩) hc2).trans HCS.out.2.2.2.2.2.2.1
            have v7 := (hb9.cell (p := ⟨b2, o2 + kk * 3 + 1, none⟩) hc2).trans HCS.out.2.2.2.2.2.2.2.1
            have v8 := (hb9.cell (p := ⟨b2, o2 + kk * 3 + 2, none⟩) hc2).trans HCS.out.2.2.2.2.2.2.2.2
            clear hb8' hb9 hHeld
            go_wp2_with fail
            refine hK.out _ _ ⟨v0, v1, v2, v3, v4, v5, v6, v7, v8⟩ (fun hHeld => ?_)
            clear hK v0 v1 v2 v3 v4 v5 v6 v7 v8
            try simp only [Act.put, List.setIfInBounds_toArray, List.set_cons_zero, List.set_cons_succ]
            refine wpAnyH_take (i := 28) (v := ?_) rfl (by kernel_rfl) (by kernel_rfl) (by kernel_rfl) (fun _ _ _ h => h) (Or.inl ⟨by rfl, ?_⟩) hHeld ?_
            rotate_left
            · intro w hSw
              (try dsimp only at hSw)
              go_simp
              all_goals with_reducible rfl
            simp only [Act.put, List.getElem_toArray, List.getElem_cons_succ, List.getElem_cons_zero, List.setIfInBounds_toArray, List.set_cons_zero, List.set_cons_succ]
            refine wpAnyH_take (i := 29) (v := ?_) rfl (by kernel_rfl) (by kernel_rfl) (by kernel_rfl) (fun _ _ _ h => h) (Or.inl ⟨by rfl, ?_⟩) hHeld ?_
            rotate_left
            · intro w hSw
              (try dsimp only at hSw)
              go_simp
              all_goals with_reducible rfl
            simp only [Act.put, List.getElem_toArray, List.getElem_cons_succ, List.getElem_cons_zero, List.setIfInBounds_toArray, List.set_cons_zero, List.set_cons_succ]
            refine wpAnyH_take (i := 30) (v := ?_) rfl (by kernel_rfl) (by kernel_rfl) (by kernel_rfl) (fun _ _ _ h => h) (Or.inl ⟨by rfl, ?_⟩) hHeld ?_
            rotate_left
            · intro w hSw
              (try dsimp only at hSw)
              go_simp
              all_goals with_reducible rfl
            simp only [Act.put, List.getElem_toArray, List.getElem_cons_succ, List.getElem_cons_zero, List.setIfInBounds_toArray, List.set_cons_zero, List.set_cons_succ]
            refine wpAnyH_done (by kernel_rfl) ?_ _
            clear hHeld
            cases pb
            · have HR := Lib.hid (show false = validR (L.map Prod.fst) (S.map Prod.fst) D by rw [← HGK.out]; rfl)
              go_wp2_with fail
              go_ret
              exact ⟨ret_bool HR.out, HB8.out⟩
            · have HGO3 := Lib.hid (show okGo (L.map Prod.fst) (S.map Prod.fst) D (j + 1) = validR (L.map Prod.fst) (S.map Prod.fst) D by rw [← HGK.out]; rfl)
              go_wp2_with fail
              go_roundw
              case rel => exact ⟨j + 1, by omega, by go_num, HGO3.out, HB8.out⟩
              case measure => simp [intOf]; omega
        · obtain rfl : j = L.length := by omega
          have HR := Lib.hid (show true = validR (L.map Prod.fst) (S.map Prod.fst) D by rw [← HGO.out]; have := okGo_end (l := L.map Prod.fst) (st := S.map Prod.fst) (d := D) (by rw [List.length_map]; exact HDL.out); rw [List.length_map] at this; exact this.symm)
          go_wp2_with fail
          go_ret
          exact ⟨ret_bool HR.out, HBJ.out⟩
end Go.Proofs.YtimeilkelnljnaaGreatDoor
