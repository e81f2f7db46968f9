import Derived.Test.YtbiadennhnokhaaGreatDoorZ29
import Derived.Test.YtbiadennhnokhaaGreatDoorZ17
import Derived.Laws.EntriesVeiled
import Derived.Test.YtbiadennhnokhaaGreatDoorZ28
import Derived.Maps.OwnIn
/- hierarchy.check: the first error of declarations. -/
namespace Go.Proofs.YtbiadennhnokhaaGreatDoor
open Go.RowKit Go.WideMaps
set_option linter.unusedSimpArgs false

theorem hi_badName (s : Bs) (w : World) (hm : s.length ≤ 100000) : Calls Tryz.prog 204 #[.string (bsB s)] w fun e w' => e = .returned (.bool (!nameOk s)) ∧ Below w.heap.size w w' := by
  have HP := Lib.hid (nm_Valid (bsB s) w (by rw [bsB_size]; exact hm))
  rw [bsB_list] at HP
  generalize nameOk s = r at HP ⊢
  go_enter Tryz.func204, Tryz.ntmps204
  go_wp2_with fail
  refine HP.out.mono ?_
  rintro e w1 ⟨rfl, hb⟩
  go_wp2_with fail
  go_ret
  exact ⟨rfl, hb⟩
def outB (n m : Int) : Bool := decide (n < 0) || decide (m < n)
theorem hi_badType (n m : Int) (w : World) : Calls Tryz.prog 206 #[.int .i64 n, .int .i64 m] w fun e w' => e = .returned (.bool (outB n m)) ∧ Below w.heap.size w w' := by
  have HR := Lib.hid (show (decide (n < 0) || decide (m < n)) = outB n m from rfl)
  by_cases h1 : n < 0
  · have b1 : decide (n < 0) = true := by simpa using h1
    rw [b1] at HR
    clear h1
    go_enter Tryz.func206, Tryz.ntmps206
    go_wp2_with fail
    go_ret
    exact ⟨ret_bool HR.out, Below.refl _ _⟩
  · have b1 : decide (n < 0) = false := by simpa using h1
    by_cases h2 : m < n
    · have b2 : decide (m < n) = true := by simpa using h2
      rw [b1, b2] at HR
      clear h1 h2
      go_enter Tryz.func206, Tryz.ntmps206
      go_wp2_with fail
      go_ret
      exact ⟨ret_bool HR.out, Below.refl _ _⟩
    · have b2 : decide (m < n) = false := by simpa using h2
      rw [b1, b2] at HR
      clear h1 h2
      go_enter Tryz.func206, Tryz.ntmps206
      go_wp2_with fail
      go_ret
      exact ⟨ret_bool HR.out, Below.refl _ _⟩
/-- a box that holds a function -/
def FnBox (w : World) (pt : Nat) (f : Nat) : Prop := w.cell? ⟨pt, 0, none⟩ = some (.func (.func f) #[] #[])
set_option maxHeartbeats 400000 in
theorem hi_c_snm (pt : Nat) (x : Sc) (w : World) (hc : FnBox w pt 204) (hm : (x.1).length ≤ 100000) :
    Calls Tryz.prog 209 #[scV x, .pointer (some ⟨pt, 0, none⟩)] w fun e w' => e = .returned (.bool (!nameOk x.1)) ∧ Below w.heap.size w w' := by
  have hlt := cell_lt hc
  have hne : pt ≠ w.heap.size := Nat.ne_of_lt hlt
  unfold FnBox at hc
  obtain ⟨nm, ty, pa⟩ := x
  have HP := Lib.hid (fun W => hi_badName nm W hm)
  generalize nameOk nm = r at HP ⊢
  go_enter Tryz.func209, Tryz.ntmps209
  go_wp2_with fail
  refine (HP.out _).mono ?_
  rintro e w1 ⟨rfl, hb⟩
  have HB := Lib.hid (ext_alloc hb)
  clear hb
  go_wp2_with fail
  go_ret
  exact ⟨rfl, HB.out⟩
set_option maxHeartbeats 400000 in
theorem hi_c_vnm (pt : Nat) (x : Vr) (w : World) (hc : FnBox w pt 204) (hm : (x.nm).length ≤ 100000) :
    Calls Tryz.prog 211 #[vrV x, .pointer (some ⟨pt, 0, none⟩)] w fun e w' => e = .returned (.bool (!nameOk x.nm)) ∧ Below w.heap.size w w' := by
  have hlt := cell_lt hc
  have hne : pt ≠ w.heap.size := Nat.ne_of_lt hlt
  unfold FnBox at hc
  obtain ⟨nm, ty, sc, sg, rg, mb, lb⟩ := x
  have HP := Lib.hid (fun W => hi_badName nm W hm)
  generalize nameOk nm = r at HP ⊢
  go_enter Tryz.func211, Tryz.ntmps211
  go_wp2_with fail
  refine (HP.out _).mono ?_
  rintro e w1 ⟨rfl, hb⟩
  have HB := Lib.hid (ext_alloc hb)
  clear hb
  go_wp2_with fail
  go_ret
  exact ⟨rfl, HB.out⟩
set_option maxHeartbeats 400000 in
theorem hi_c_sty (pt : Nat) (x : Sc) (w : World) (hc : FnBox w pt 206) :
    Calls Tryz.prog 212 #[scV x, .pointer (some ⟨pt, 0, none⟩)] w fun e w' => e = .returned (.bool (outB x.2.1 4)) ∧ Below w.heap.size w w' := by
  have hlt := cell_lt hc
  have hne : pt ≠ w.heap.size := Nat.ne_of_lt hlt
  unfold FnBox at hc
  obtain ⟨nm, ty, pa⟩ := x
  have HP := Lib.hid (fun W => hi_badType ty 4 W)
  dsimp only at HP ⊢
  generalize outB ty 4 = r at HP ⊢
  go_enter Tryz.func212, Tryz.ntmps212
  go_wp2_with fail
  refine (HP.out _).mono ?_
  rintro e w1 ⟨rfl, hb⟩
  have HB := Lib.hid (ext_alloc hb)
  clear hb
  go_wp2_with fail
  go_ret
  exact ⟨rfl, HB.out⟩
set_option maxHeartbeats 400000 in
theorem hi_c_vty (pt : Nat) (x : Vr) (w : World) (hc : FnBox w pt 206) :
    Calls Tryz.prog 213 #[vrV x, .pointer (some ⟨pt, 0, none⟩)] w fun e w' => e = .returned (.bool (outB x.ty 18)) ∧ Below w.heap.size w w' := by
  have hlt := cell_lt hc
  have hne : pt ≠ w.heap.size := Nat.ne_of_lt hlt
  unfold FnBox at hc
  obtain ⟨nm, ty, sc, sg, rg, mb, lb⟩ := x
  have HP := Lib.hid (fun W => hi_badType ty 18 W)
  dsimp only at HP ⊢
  generalize outB ty 18 = r at HP ⊢
  go_enter Tryz.func213, Tryz.ntmps213
  go_wp2_with fail
  refine (HP.out _).mono ?_
  rintro e w1 ⟨rfl, hb⟩
  have HB := Lib.hid (ext_alloc hb)
  clear hb
  go_wp2_with fail
  go_ret
  exact ⟨rfl, HB.out⟩
theorem hi_c_vrg (x : Vr) (w : World) : Calls Tryz.prog 207 #[vrV x] w fun e w' => e = .returned (.bool (rangeBad x)) ∧ Below w.heap.size w w' := by
  obtain ⟨nm, ty, sc, sg, rg, mb, lb⟩ := x
  have HP := Lib.hid (fun W => nm_Width mb lb W)
  obtain ⟨R, hR⟩ : ∃ R, R = rangeBad ⟨nm, ty, sc, sg, rg, mb, lb⟩ := ⟨_, rfl⟩
  rw [← hR]
  unfold rangeBad at hR
  dsimp only at hR
  have hal : Below w.heap.size w (w.alloc (.cells #[.string (bsB nm), .int .i64 ty, .int .i64 sc, .int .i64 sg, .bool rg, .int .i64 mb, .int .i64 lb] 42)) := (Below.refl _ _).alloc (Nat.le_refl _) _
  cases rg
  · rw [if_neg (by decide)] at hR
    by_cases h1 : mb = 0
    · by_cases h2 : lb = 0
      · have HR := Lib.hid (show R = false by rw [hR]; simp [h1, h2])
        have b1 : (mb == 0) = true := by simp [h1]
        have b2 : (lb == 0) = true := by simp [h2]
        subst h1 h2
        clear hR HP
        go_enter Tryz.func207, Tryz.ntmps207
        go_wp2_with fail
        go_ret
        exact ⟨ret_bool HR.out.symm, hal⟩
      · have HR := Lib.hid (show R = true by rw [hR]; simp [h2])
        have b2 : (lb == 0) = false := by simpa using h2
        have b3 : (lb != 0) = true := by simpa using h2
        subst h1
        clear hR HP h2
        go_enter Tryz.func207, Tryz.ntmps207
        go_wp2_with fail
        go_ret
        exact ⟨ret_bool HR.out.symm, hal⟩
    · have HR := Lib.hid (show R = true by rw [hR]; simp [h1])
      have b2 : (mb == 0) = false := by simpa using h1
      have b3 : (mb != 0) = true := by simpa using h1
      clear hR HP h1
      go_enter Tryz.func207, Tryz.ntmps207
      go_wp2_with fail
      go_ret
      exact ⟨ret_bool HR.out.symm, hal⟩
  · rw [if_pos rfl] at hR
    have HR := Lib.hid (show R = (widthF mb lb == 0) by rw [hR]; rfl)
    generalize widthF mb lb = q at HP HR
    clear hR
    go_enter Tryz.func207, Tryz.ntmps207
    go_wp2_with fail
    refine (HP.out _).mono ?_
    rintro e w1 ⟨rfl, rfl⟩
    go_wp2_with fail
    go_ret
    exact ⟨ret_bool HR.out.symm, hal⟩
end Go.Proofs.YtbiadennhnokhaaGreatDoor
/- hierarchy.check: the first error of declarations. -/
namespace Go.Proofs.YtbiadennhnokhaaGreatDoor
open Go.RowKit Go.WideMaps
set_option linter.unusedSimpArgs false

theorem FnBox.below {w W : World} {pt f : Nat} (h : FnBox w pt f) (hb : Below w.heap.size w W) : FnBox W pt f := (hb.cell (p := ⟨pt, 0, none⟩) (cell_lt h)).trans h
def longB (S : List Sc) (i : Nat) : Bool := decide (8 < (upL S (i + 1) i).length)
/-- behind the paths -/
def chk2 (p1 p2 q1 q2 r1 u1 u2 : Bool) : Int := if (p1 || p2) = true then 4 else if (q1 || q2) = true then 7 else if r1 = true then 2 else if (!u1 || !u2) = true then 5 else 0
theorem checkF_eq (S : List Sc) (V : List Vr) (h1 : ¬ 32 < S.length) (h2 : ¬ 128 < V.length) (hd : declF S V = true) : checkF S V = if (List.range S.length).any (longB S) = true then 9 else
    chk2 (S.any fun s => !nameOk s.1) (V.any fun v => !nameOk v.nm) (S.any fun s => outB s.2.1 4) (V.any fun v => outB v.ty 18) (V.any rangeBad) (uniq scKey S) (uniq vrKey V) := by
  unfold checkF
  rw [if_neg (by omega), if_neg (by rw [hd]; decide)]
  rfl
theorem wf_of {n : Int} (h1 : -1000000 ≤ n) (h2 : n ≤ 1000000) : (Lit.int .i64 n).wf = true := by
  have e1 : IntKind.i64.min = -9223372036854775808 := by decide
  have e2 : IntKind.i64.max = 9223372036854775807 := by decide
  unfold Lit.wf
  rw [Bool.and_eq_true, decide_eq_true_iff, decide_eq_true_iff, e1, e2]
  omega
set_option maxHeartbeats 1600000 in
set_option maxRecDepth 100000 in
theorem hi_check (v v2 : Value) (S : List Sc) (V : List Vr) (w : World) (hs : SlR w v S.length (scs S)) (hv : SlR w v2 V.length (vrs V)) (hl : S.length ≤ 1000 ∧ V.length ≤ 1000) (hn : (∀ s ∈ S, s.1.length ≤ 100000) ∧ ∀ x ∈ V, x.nm.length ≤ 100000) :
    Calls Tryz.prog 162 #[v, v2] w fun e w' => e = .returned (.int .i64 (checkF S V)) ∧ Below w.heap.size w w' := by
  obtain ⟨a, cap, rfl, -, -⟩ := hs.shape
  obtain ⟨a2, cap2, rfl, -, -⟩ := hv.shape
  obtain ⟨R, hR⟩ : ∃ R, R = checkF S V := ⟨_, rfl⟩
  rw [← hR]
  by_cases h32 : 32 < S.length
  · have HR := Lib.hid (show 9 = R by rw [hR]; unfold checkF; rw [if_pos (.inl h32)])
    have b1 : decide ((32 : Int) < (S.length : Int)) = true := by rw [decide_eq_true_iff]; omega
    clear hR h32 hs hv hn
    go_enter Tryz.func162, Tryz.ntmps162
    go_wp2_with fail
    go_ret
    exact ⟨ret_num HR.out, Below.refl _ _⟩
  have b1 : decide ((32 : Int) < (S.length : Int)) = false := by rw [decide_eq_false_iff_not]; omega
  by_cases h128 : 128 < V.length
  · have HR := Lib.hid (show 9 = R by rw [hR]; unfold checkF; rw [if_pos (.inr h128)])
    have b2 : decide ((128 : Int) < (V.length : Int)) = true := by rw [decide_eq_true_iff]; omega
    clear hR h32 hs hv hn h128
    go_enter Tryz.func162, Tryz.ntmps162
    go_wp2_with fail
    go_ret
    exact ⟨ret_num HR.out, Below.refl _ _⟩
  have b2 : decide ((128 : Int) < (V.length : Int)) = false := by rw [decide_eq_false_iff_not]; omega
  have HD := Lib.hid (hi_declared _ _ S V w hs hv (by omega))
  cases hd : declF S V
  · have HR := Lib.hid (show 1 = R by rw [hR]; unfold checkF; rw [if_neg (by omega), if_pos hd])
    rw [hd] at HD
    clear hR h32 hs hv hn h128 hd
    go_enter Tryz.func162, Tryz.ntmps162
    go_wp2_with fail
    refine HD.out.mono ?_
    rintro e w1 ⟨rfl, hb⟩
    go_wp2_with fail
    go_ret
    exact ⟨ret_num HR.out, hb⟩
  rw [hd] at HD
  have HQ := Lib.hid (hR.trans (checkF_eq S V h32 h128 hd))
  have HF := Lib.hid (decl_fst hd)
  have HV2 := Lib.hid (decl_vars hd)
  have HS := Lib.hid hs
  have HV := Lib.hid hv
  have HN := Lib.hid hn
  have HL := Lib.hid (show S.length ≤ 32 ∧ V.length ≤ 128 by omega)
  clear hR hs hv hn h32 h128 hd hl
  go_enter Tryz.func162, Tryz.ntmps162
  go_wp2_with fail
  refine HD.out.mono ?_
  rintro e w1 ⟨rfl, hb⟩
  have HB := Lib.hid hb
  clear hb HD
  go_wp2_with fail
  go_loopw [23] (fun i wr => ∃ k : Nat, k ≤ S.length ∧ i = .int .i64 k ∧ (∀ j, j < k → longB S j = false) ∧ Below w.heap.size w wr) (fun i _ => S.length - (intOf i).toNat)
  case atStart => exact ⟨0, Nat.zero_le _, rfl, fun j hj => absurd hj (Nat.not_lt_zero _), HB.out⟩
  case round =>
    obtain ⟨k, hk, rfl, hsh, hbw⟩ := hrel
    have HSH := Lib.hid hsh
    have HBW := Lib.hid hbw
    have hl := HL.out
    clear hsh hbw
    by_cases hlt : k < S.length
    · have HP := Lib.hid (hi_path _ S k wr (HS.out.below HBW.out) HF.out hlt (by omega))
      cases hlo : longB S k
      · have HLO := Lib.hid (of_decide_eq_false hlo)
        have HSH2 := Lib.hid (show ∀ j, j < k + 1 → longB S j = false by
          intro j hj
          by_cases h : j < k
          · exact HSH.out j h
          · rw [show j = k by omega]; exact hlo)
        clear hlo
        go_wp2_with fail
        refine HP.out.mono ?_
        rintro e w2 ⟨v', rfl, ho, hb2⟩
        obtain ⟨pa, pc, rfl, -, -⟩ := (SlR.of_own ho).shape
        have hb3 : decide ((8 : Int) < ((upL S (k + 1) k).length : Int)) = false := by rw [decide_eq_false_iff_not]; have := HLO.out; omega
        have HB2 := Lib.hid (HBW.out.trans (hb2.mono HBW.out.size))
        generalize (upL S (k + 1) k).length = pn at *
        clear ho hb2
        go_wp2_with fail
        go_roundw
        case rel => exact ⟨k + 1, by omega, by go_num, HSH2.out, HB2.out⟩
        case measure => simp [intOf]; omega
      · have HLO := Lib.hid (of_decide_eq_true hlo)
        have HR := Lib.hid (show 9 = R by
          rw [HQ.out, if_pos]
          rw [List.any_eq_true]
          exact ⟨k, List.mem_range.2 hlt, hlo⟩)
        clear hlo
        go_wp2_with fail
        refine HP.out.mono ?_
        rintro e w2 ⟨v', rfl, ho, hb2⟩
        obtain ⟨pa, pc, rfl, -, -⟩ := (SlR.of_own ho).shape
        have hb3 : decide ((8 : Int) < ((upL S (k + 1) k).length : Int)) = true := by rw [decide_eq_true_iff]; have := HLO.out; omega
        have HB2 := Lib.hid (HBW.out.trans (hb2.mono HBW.out.size))
        generalize (upL S (k + 1) k).length = pn at *
        clear ho hb2
        go_wp2_with fail
        go_ret
        exact ⟨ret_num HR.out, HB2.out⟩
    · obtain rfl : k = S.length := by omega
      have HQ2 := Lib.hid (show R = chk2 (S.any fun s => !nameOk s.1) (V.any fun v => !nameOk v.nm) (S.any fun s => outB s.2.1 4) (V.any fun v => outB v.ty 18) (V.any rangeBad) (uniq scKey S) (uniq vrKey V) by
        have h7 : (List.range S.length).any (longB S) = false := any_false.2 fun j hj => HSH.out j (List.mem_range.1 hj)
        rw [HQ.out, h7]
        rfl)
      clear hlt HQ
      have HB2 := Lib.hid ((HBW.out.alloc HBW.out.size (.cells #[(.func (.func 204) #[] #[])] 172)).alloc (by have := HBW.out.size; simp; omega) (.cells #[(.func (.func 206) #[] #[])] 126))
      have hx1 := (OwnRow.fresh wr #[(.func (.func 204) #[] #[])] 172).cell (j := 0) rfl
      have hx2 := (OwnRow.fresh (wr.alloc (.cells #[(.func (.func 204) #[] #[])] 172)) #[(.func (.func 206) #[] #[])] 126).cell (j := 0) rfl
      have hx3 := cell_alloc hx1 (.cells #[(.func (.func 206) #[] #[])] 126)
      rw [World.size_alloc] at hx2
      have HF1 := Lib.hid (show FnBox ((wr.alloc (.cells #[(.func (.func 204) #[] #[])] 172)).alloc (.cells #[(.func (.func 206) #[] #[])] 126)) wr.heap.size 204 from hx3)
      have HF2 := Lib.hid (show FnBox ((wr.alloc (.cells #[(.func (.func 204) #[] #[])] 172)).alloc (.cells #[(.func (.func 206) #[] #[])] 126)) (wr.heap.size + 1) 206 from hx2)
      clear hx1 hx2 hx3
      generalize hw2 : (wr.alloc (.cells #[(.func (.func 204) #[] #[])] 172)).alloc (.cells #[(.func (.func 206) #[] #[])] 126) = w2 at *
      have HSL := Lib.hid (fun (W : World) (hW : Below w2.heap.size w2 W) => HS.out.below (HB2.out.trans (hW.mono HB2.out.size)))
      have HVL := Lib.hid (fun (W : World) (hW : Below w2.heap.size w2 W) => HV.out.below (HB2.out.trans (hW.mono HB2.out.size)))
      have HC1 := Lib.hid (fun (W : World) (hW : Below w2.heap.size w2 W) => con_snm wr.heap.size (fun s => !nameOk s.1) _ S W (HSL.out W hW) (fun x hx U hU => hi_c_snm _ x U ((HF1.out.below hW).below hU) (HN.out.1 x hx)))
      have HC2 := Lib.hid (fun (W : World) (hW : Below w2.heap.size w2 W) => con_vnm wr.heap.size (fun x => !nameOk x.nm) _ V W (HVL.out W hW) (fun x hx U hU => hi_c_vnm _ x U ((HF1.out.below hW).below hU) (HN.out.2 x hx)))
      have HC3 := Lib.hid (fun (W : World) (hW : Below w2.heap.size w2 W) => con_sty (wr.heap.size + 1) (fun s => outB s.2.1 4) _ S W (HSL.out W hW) (fun x hx U hU => hi_c_sty _ x U ((HF2.out.below hW).below hU)))
      have HC4 := Lib.hid (fun (W : World) (hW : Below w2.heap.size w2 W) => con_vty (wr.heap.size + 1) (fun x => outB x.ty 18) _ V W (HVL.out W hW) (fun x hx U hU => hi_c_vty _ x U ((HF2.out.below hW).below hU)))
      have HC5 := Lib.hid (fun (W : World) (hW : Below w2.heap.size w2 W) => con_vrg 0 rangeBad _ V W (HVL.out W hW) (fun x hx U hU => hi_c_vrg x U))
      have HC6 := Lib.hid (fun (W : World) (hW : Below w2.heap.size w2 W) => hi_uniq_scs _ S W (HSL.out W hW) (by omega) (fun x hx => ⟨by
        obtain ⟨j, hj, rfl⟩ := List.mem_iff_getElem.1 hx
        have := HF.out j hj
        have e : parS S j = S[j].2.2 := by simp [parS, List.getD, hj]
        rw [e] at this
        exact wf_of (by omega) (by omega), by have := HN.out.1 x hx; unfold maxLen; omega⟩))
      have HC7 := Lib.hid (fun (W : World) (hW : Below w2.heap.size w2 W) (hr : V.any rangeBad = false) => hi_uniq_vrs _ V W (HVL.out W hW) (by omega) (fun x hx => by
        have h1 := HV2.out x hx
        have h2 := HN.out.2 x hx
        have h3 := any_false.1 hr x hx
        have h4 : (-32768 ≤ x.mb ∧ x.mb ≤ 32768) ∧ (-32768 ≤ x.lb ∧ x.lb ≤ 32768) := by
          unfold rangeBad at h3
          split at h3
          · have h3 := of_decide_eq_false h3
            unfold widthF at h3
            split at h3
            · rename_i hb
              unfold bndOk at hb
              simp only [Bool.and_eq_true, decide_eq_true_iff] at hb
              exact hb
            · exact absurd rfl h3
          · rw [Bool.or_eq_false_iff] at h3
            have h5 := of_decide_eq_false h3.1
            have h6 := of_decide_eq_false h3.2
            omega
        exact ⟨⟨wf_of (by omega) (by omega), by unfold maxLen; omega⟩, wf_of (by omega) (by omega), wf_of (by omega) (by omega)⟩))
      generalize (S.any fun s => !nameOk s.1) = p1 at *
      generalize (V.any fun v => !nameOk v.nm) = p2 at *
      generalize (S.any fun s => outB s.2.1 4) = q1 at *
      generalize (V.any fun v => outB v.ty 18) = q2 at *
      generalize V.any rangeBad = r1 at *
      generalize uniq scKey S = u1 at *
      generalize uniq vrKey V = u2 at *
      have HB0 := Lib.hid (Below.refl w2.heap.size w2)
      have HQ3 := HQ2
      have HW2 := Lib.hid hw2
      clear HSL HVL HS HV HN HF HV2 HSH HQ2 HF1 HF2 hw2 HL hl
      go_wp2_with fail
      rw [HW2.out]
      refine (HC1.out _ HB0.out).mono ?_
      rintro e w8 ⟨rfl, hb8⟩
      have HB3 := Lib.hid (ext_trans HB0.out hb8)
      clear hb8 HC1
      cases p1
      rotate_left
      · go_wp2_with fail
        go_ret
        exact ⟨ret_num (by rw [HQ3.out]; rfl), HB2.out.trans (HB3.out.mono HB2.out.size)⟩
      go_wp2_with fail
      refine (HC2.out _ HB3.out).mono ?_
      rintro e w8 ⟨rfl, hb8⟩
      have HB4 := Lib.hid (ext_trans HB3.out hb8)
      clear hb8 HC2
      cases p2
      rotate_left
      · go_wp2_with fail
        go_ret
        exact ⟨ret_num (by rw [HQ3.out]; rfl), HB2.out.trans (HB4.out.mono HB2.out.size)⟩
      go_wp2_with fail
      refine (HC3.out _ HB4.out).mono ?_
      rintro e w8 ⟨rfl, hb8⟩
      have HB5 := Lib.hid (ext_trans HB4.out hb8)
      clear hb8 HC3
      cases q1
      rotate_left
      · go_wp2_with fail
        go_ret
        exact ⟨ret_num (by rw [HQ3.out]; rfl), HB2.out.trans (HB5.out.mono HB2.out.size)⟩
      go_wp2_with fail
      refine (HC4.out _ HB5.out).mono ?_
      rintro e w8 ⟨rfl, hb8⟩
      have HB6 := Lib.hid (ext_trans HB5.out hb8)
      clear hb8 HC4
      cases q2
      rotate_left
      · go_wp2_with fail
        go_ret
        exact ⟨ret_num (by rw [HQ3.out]; rfl), HB2.out.trans (HB6.out.mono HB2.out.size)⟩
      go_wp2_with fail
      refine (HC5.out _ HB6.out).mono ?_
      rintro e w8 ⟨rfl, hb8⟩
      have HB7 := Lib.hid (ext_trans HB6.out hb8)
      clear hb8 HC5
      cases r1
      rotate_left
      · go_wp2_with fail
        go_ret
        exact ⟨ret_num (by rw [HQ3.out]; rfl), HB2.out.trans (HB7.out.mono HB2.out.size)⟩
      have HC8 := Lib.hid (fun W hW => HC7.out W hW rfl)
      clear HC7
      go_wp2_with fail
      refine (HC6.out _ HB7.out).mono ?_
      rintro e w8 ⟨rfl, hb8⟩
      have HB8 := Lib.hid (ext_trans HB7.out hb8)
      clear hb8 HC6
      cases u1
      · go_wp2_with fail
        go_ret
        exact ⟨ret_num (by rw [HQ3.out]; rfl), HB2.out.trans (HB8.out.mono HB2.out.size)⟩
      go_wp2_with fail
      refine (HC8.out _ HB8.out).mono ?_
      rintro e w8 ⟨rfl, hb8⟩
      have HB9 := Lib.hid (ext_trans HB8.out hb8)
      clear hb8 HC8
      cases u2
      · go_wp2_with fail
        go_ret
        exact ⟨ret_num (by rw [HQ3.out]; rfl), HB2.out.trans (HB9.out.mono HB2.out.size)⟩
      go_wp2_with fail
      go_ret
      exact ⟨ret_num (by rw [HQ3.out]; rfl), HB2.out.trans (HB9.out.mono HB2.out.size)⟩
end Go.Proofs.YtbiadennhnokhaaGreatDoor
/- hierarchy.Order: what lies in memory while the scopes are ordered. -/
namespace Go.Proofs.YtbiadennhnokhaaGreatDoor
open Go.RowKit Go.WideMaps Go.Shelf
attribute [local go_sem] Oper.semAt_some
set_option linter.unusedSimpArgs false

/-- an entry of a literal map -/
theorem wpList_insK {P : Program} {K : TypeId} {κ : Type} [DecidableEq κ] {E : KeyEnc P K κ} (w : World) {ops : Array Oper} {rest : List Oper} {o : Oper} {a : Act} {Q : Exit → Act → World → Prop}
    (hg : o.guard = none) (m x v : Operand) (t : TypeId) (hop : o.op = Op.insert t m x v) (e : TypeId) (ht : P.underlying t = some (.map K e)) (b n : Nat) (f : κ → Option Value)
    (hm : a.eval m = .map (some b)) (hown : KMap E w b n f) (hn : n < maxLen) (k : κ) (val : Value) (hx : a.eval x = E.vK k) (hv : a.eval v = val) (hk : E.dom k)
    (hC : ∀ w', KMap E w' b (n + 1) (fun y => if y = k then some val else f y) → w.grownBy w' (some b) → wpList P ops Q rest (a.put o.dst undef) w') :
    wpList P ops Q (o :: rest) a w := by
  refine wpList_plain hg fun K' hK' => ?_
  obtain ⟨w', hrun, r1, r2⟩ := hown.put ht hn k hk val
  unfold Oper.wp
  simp [execOp, hop, hm, hx, hv, hrun, Result.andThen]
  exact hK' _ _ (hC w' r1 r2)
theorem wpListIn_putK {F : Fence} {nF : Nat} {P : Program} {K : TypeId} {κ : Type} [DecidableEq κ] {E : KeyEnc P K κ} (w : World) {ops : Array Oper} {rest : List Oper} {o : Oper} {a : Act} {Q : Exit → Act → World → Prop}
    (hg : o.guard = none) (m x v : Operand) (t : TypeId) (hop : o.op = Op.mapUpdate t m x v) (e : TypeId) (ht : P.underlying t = some (.map K e)) (b n : Nat) (f : κ → Option Value)
    (hm : a.eval m = .map (some b)) (hown : KMap E w b n f) (hn : n < maxLen) (k : κ) (val : Value) (hx : a.eval x = E.vK k) (hv : a.eval v = val) (hk : E.dom k)
    (hC : ∀ w', KMap E w' b (n + 1) (fun y => if y = k then some val else f y) → w.grownBy w' (some b) → wpListIn F nF P ops Q rest (a.put o.dst undef) w') :
    wpListIn F nF P ops Q (o :: rest) a w := by
  refine wpListIn_plain hg fun K' hK' => ?_
  obtain ⟨w', hrun, r1, r2⟩ := hown.put ht hn k hk val
  unfold Oper.wpIn
  refine ⟨by simp [Oper.about, hop], ?_⟩
  rw [Oper.semAt_plain F _ _ (by rw [hop]; intro c hc'; cases hc')]
  simp [execOp, hop, hm, hx, hv, hrun, Result.andThen]
  exact hK' _ _ (hC w' r1 r2)
/-- the new number of each scope, so far -/
def nowF (ord : List Nat) (k : Nat) (x : Int) : Option Value := if x = -1 ∨ (0 ≤ x ∧ x.toNat ∈ ord.take k) then some (.int .i64 (pos ord x)) else none
theorem nowF_snoc {ord : List Nat} (hn : ord.Nodup) {k : Nat} (hk : k < ord.length) (y : Int) : (if y = (ord[k] : Int) then some (Value.int .i64 (k : Int)) else nowF ord k y) = nowF ord (k + 1) y := by
  have hix : ord.idxOf ord[k] = k := hn.idxOf_getElem k hk
  by_cases hy : y = (ord[k] : Int)
  · subst hy
    rw [if_pos rfl]
    unfold nowF
    rw [if_pos (.inr ⟨by omega, by rw [Int.toNat_natCast, List.take_succ_eq_append_getElem hk]; exact List.mem_append_right _ (List.mem_singleton.2 rfl)⟩)]
    unfold pos
    rw [if_neg (by omega), Int.toNat_natCast, hix]
  · rw [if_neg hy]
    unfold nowF
    have e : (y = -1 ∨ (0 ≤ y ∧ y.toNat ∈ ord.take (k + 1))) ↔ (y = -1 ∨ (0 ≤ y ∧ y.toNat ∈ ord.take k)) := by
      rw [List.take_succ_eq_append_getElem hk]
      simp only [List.mem_append, List.mem_singleton]
      constructor
      · rintro (h | ⟨h1, h2 | h2⟩)
        · exact .inl h
        · exact .inr ⟨h1, h2⟩
        · exact absurd (show y = (ord[k] : Int) by omega) hy
      · rintro (h | ⟨h1, h2⟩)
        · exact .inl h
        · exact .inr ⟨h1, .inl h2⟩
    by_cases h : y = -1 ∨ (0 ≤ y ∧ y.toNat ∈ ord.take k)
    · rw [if_pos h, if_pos (e.2 h)]
    · rw [if_neg h, if_neg (fun h' => h (e.1 h'))]
theorem nowF_zero (ord : List Nat) (y : Int) : (if y = -1 then some (Value.int .i64 (-1)) else none) = nowF ord 0 y := by
  unfold nowF
  by_cases hy : y = -1
  · subst hy
    rw [if_pos rfl, if_pos (.inl rfl)]
    rfl
  · rw [if_neg hy, if_neg]
    rintro (h | ⟨-, h⟩)
    · exact hy h
    · simp at h
/-- what lies in memory while scopes are ordered -/
structure OrI (w : World) (v : Value) (b9 bq : Nat) (S : List Sc) (k km : Nat) (vo : Value) (W : World) : Prop where
  bs : W.heap[w.heap.size]? = some (.cells #[v] 22 (0, 0))
  bo : W.heap[b9]? = some (.cells #[vo] 22 (0, 0))
  bn : W.heap[bq]? = some (.cells #[.map (some (b9 + 1))] 93 (0, 0))
  m : KMap (intEnc (P := Tryz.prog) (K := 3) Tryz.underlying3) W (b9 + 1) (km + 1) (nowF (preS S) km)
  o : W.ownsRow w.heap.size 55 3 vo k (scs ((scF S).take k))
  b : Below w.heap.size w W
  z : w.heap.size < b9 ∧ b9 + 1 < bq
theorem OrI.turn {w W V : World} {v vo : Value} {b9 bq k km B : Nat} {S : List Sc} (h : OrI w v b9 bq S k km vo W) (hB : bq < B) (ht : TurnI B 5 W V) : OrI w v b9 bq S k km vo V := by
  have hz := h.z
  exact ⟨(ht.low _ (by omega)).trans h.bs, (ht.low _ (by omega)).trans h.bo, (ht.low _ (by omega)).trans h.bn, h.m.same (ht.low _ (by omega)), own_turn h.o ht (by decide),
    ⟨ht.os.trans h.b.os, ht.tape.trans h.b.tape, ht.output.trans h.b.output, Nat.le_trans h.b.size ht.size, fun b hb => (ht.low b (by omega)).trans (h.b.block b hb)⟩, h.z⟩
theorem OrI.below {w W V : World} {v vo : Value} {b9 bq k km : Nat} {S : List Sc} (h : OrI w v b9 bq S k km vo W) (hb : Below W.heap.size W V) : OrI w v b9 bq S k km vo V := by
  have hs := Same0.of_below hb
  exact ⟨hs.cells _ _ _ _ h.bs, hs.cells _ _ _ _ h.bo, hs.cells _ _ _ _ h.bn, h.m.below hb h.m.lt, own_same0 h.o hs, h.b.trans (hb.mono h.b.size), h.z⟩
theorem OrI.setM {w W W1 : World} {v vo : Value} {b9 bq k : Nat} {S : List Sc} (h : OrI w v b9 bq S k k vo W) (hn : (preS S).Nodup) (hk : k < (preS S).length)
    (hm : KMap (intEnc (P := Tryz.prog) (K := 3) Tryz.underlying3) W1 (b9 + 1) (k + 1 + 1) (fun y => if y = ((preS S)[k] : Int) then some (.int .i64 (k : Int)) else nowF (preS S) k y)) (hg : W.grownBy W1 (some (b9 + 1))) : OrI w v b9 bq S k (k + 1) vo W1 := by
  have hz := h.z
  have hne : ∀ (i : Nat) (D : Array Value) (T : TypeId) (fr : Nat × Nat), W.heap[i]? = some (.cells D T fr) → W1.heap[i]? = some (.cells D T fr) := by
    intro i D T fr hi
    rw [hg.block i (Array.getElem?_eq_some_iff.1 hi).1 (fun q => by
      injection q with q
      subst q
      exact h.m.no_cells hi)]
    exact hi
  exact ⟨hne _ _ _ _ h.bs, hne _ _ _ _ h.bo, hne _ _ _ _ h.bn, hm.ext (fun y => nowF_snoc hn hk y), h.o.kept hg (.inr fun e => h.m.ne_row h.o e.symm), h.b.grown hg h.b.size (fun j hj => by injection hj with hj; omega), hz⟩
theorem OrI.add {w W W1 : World} {v vo vo' : Value} {b9 bq k km : Nat} {S : List Sc} {x : Sc} (h : OrI w v b9 bq S k km vo W) (hx : (scF S)[k]? = some x) (ho : W1.ownsRow w.heap.size 55 3 vo' (k + 1) (scs ((scF S).take k) ++ scC x)) (hg : W.grownBy W1 vo.ownBlock) :
    OrI w v b9 bq S (k + 1) km vo' (W1.setCell ⟨b9, 0, none⟩ vo') := by
  have hz := h.z
  have hne : ∀ (i : Nat) (D : Array Value) (T : TypeId) (fr : Nat × Nat), W.heap[i]? = some (.cells D T fr) → T ≠ 55 → W1.heap[i]? = some (.cells D T fr) := by
    intro i D T fr hi hT
    rw [hg.block i (Array.getElem?_eq_some_iff.1 hi).1 (fun q => by
      rcases h.o.2 with ⟨rfl, -⟩ | ⟨g', cap', cur, rfl, -, hgb, -⟩
      · cases q
      · injection q with q
        subst q
        rw [hgb] at hi
        injection hi with hi
        injection hi with _ h5 _
        exact hT h5.symm)]
    exact hi
  have h1 := hne _ _ _ _ h.bs (by decide)
  have h2 := hne _ _ _ _ h.bo (by decide)
  have h3 := hne _ _ _ _ h.bn (by decide)
  have hm := (h.m.kept hg (h.m.ne_row h.o)).setCell (a := ⟨b9, 0, none⟩) (by show b9 + 1 ≠ b9; omega) vo'
  refine ⟨heap_far1 (by omega) h1, heap_set1 h2, heap_far1 (by omega) h3, hm, ?_, (h.b.grown hg h.b.size (fun k hk => (h.o.lt _ hk).1)).setCell (p := ⟨b9, 0, none⟩) (by show w.heap.size ≤ b9; omega) _, hz⟩
  rw [List.take_add_one, hx, scs_app]
  show World.ownsRow _ _ _ _ _ _ (scs ((scF S).take k) ++ scs [x])
  have e : scs [x] = scC x := by simp [scs]
  rw [e]
  refine ownsRow_setCell_other (a := ⟨b9, 0, none⟩) ho (fun q => ?_) _
  rcases ho.2 with ⟨rfl, -⟩ | ⟨g', cap', cur, rfl, -, hgb, -⟩
  · cases q
  · injection q with q
    subst q
    rw [hgb] at h2
    injection h2 with h2
    injection h2 with _ h5 _
    exact absurd h5 (by decide)
theorem OrI.keepBo {w W W1 : World} {v vo : Value} {b9 bq k km : Nat} {S : List Sc} (h : OrI w v b9 bq S k km vo W) (hg : W.grownBy W1 vo.ownBlock) : W1.heap[b9]? = some (.cells #[vo] 22 (0, 0)) := by
  rw [hg.block b9 (Array.getElem?_eq_some_iff.1 h.bo).1 (fun q => by
    rcases h.o.2 with ⟨rfl, -⟩ | ⟨g', cap', cur, rfl, -, hgb, -⟩
    · cases q
    · injection q with q
      subst q
      have hi := h.bo
      rw [hgb] at hi
      injection hi with hi
      injection hi with _ h5 _
      exact absurd h5 (by decide))]
  exact h.bo
theorem OrI.others {w W W1 : World} {v vo vo' : Value} {b9 bq k km : Nat} {S : List Sc} (h : OrI w v b9 bq S k km vo W) (hg : W.grownBy W1 vo.ownBlock) : KeepsOthers W (W1.setCell ⟨b9, 0, none⟩ vo') := by
  refine (KeepsOthers.of_grownBy hg fun j o ej hj => ?_).trans (KeepsOthers.setCell _ _ _)
  rcases h.o.2 with ⟨rfl, _⟩ | ⟨g, cap, cur, rfl, _, hgb, _⟩
  · simp [Value.ownBlock] at ej
  · obtain rfl : g = j := by simpa [Value.ownBlock] using ej
    rw [hgb] at hj; cases hj; rfl
theorem OrI.kp {w W W1 : World} {v vo vo' : Value} {b9 bq k km : Nat} {S : List Sc} (h : OrI w v b9 bq S k km vo W) (hg : W.grownBy W1 vo.ownBlock) : KpO w.heap.size W (W1.setCell ⟨b9, 0, none⟩ vo') := by
  refine ⟨by have := hg.size; simpa using this, fun b C T fr hb hc => ?_⟩
  have hz := h.z
  rw [Below.heap_setCell _ _ _ _ (by show b ≠ b9; omega), hg.block b (Array.getElem?_eq_some_iff.1 hc).1 (fun q => by have := (h.o.lt _ q.symm).1; omega)]
  exact hc
/-- the number of a parent, ahead of its children -/
theorem parent_known {S : List Sc} {k : Nat} (hk : k < (preS S).length) : parS S (preS S)[k] = -1 ∨ (0 ≤ parS S (preS S)[k] ∧ (parS S (preS S)[k]).toNat ∈ (preS S).take (k + 1)) := by
  have hsp : preS S = (preS S).take k ++ (preS S)[k] :: (preS S).drop (k + 1) := by rw [← List.drop_eq_getElem_cons hk, List.take_append_drop]
  rcases pre_before _ _ _ _ _ hsp with h | ⟨y, hy, h⟩
  · exact .inl h
  · rw [h]
    refine .inr ⟨by omega, ?_⟩
    rw [Int.toNat_natCast, List.take_succ_eq_append_getElem hk]
    exact List.mem_append_left _ hy
end Go.Proofs.YtbiadennhnokhaaGreatDoor
