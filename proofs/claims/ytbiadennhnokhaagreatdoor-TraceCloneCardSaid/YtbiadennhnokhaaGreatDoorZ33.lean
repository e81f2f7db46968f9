import Derived.Test.YtbiadennhnokhaaGreatDoorZ32
import Derived.Test.YtbiadennhnokhaaGreatDoorZ14
/- trace.steps. -/
namespace Go.Proofs.YtbiadennhnokhaaGreatDoor
open Go.RowKit
set_option linter.unusedSimpArgs false

/-- the state ahead of stage k lies in memory -/
def StI (w : World) (t : Tr) (p : TP) (k : Nat) (W : World) : Prop := (∀ j < k, cod t j = 0) ∧ ∃ q, BI w t p (stg t k) q W ∧ (k ≤ 4 → q.vp = .slice none 0 0)
/-- stage k -/
def StE (w : World) (t : Tr) (p : TP) (k : Nat) (e : Ending) (W : World) : Prop := e = .returned (.int .i64 (cod t k)) ∧ Below w.heap.size w W ∧ (cod t k = 0 → StI w t p (k + 1) W)
theorem StI.texts {w W : World} {t : Tr} {p : TP} (h : StI w t p 0 W) (hF : FB t) (hg : Glm w) : Calls Tryz.prog 53 #[.pointer (some ⟨w.heap.size, 0, none⟩)] W (StE w t p 0) := by
  obtain ⟨-, q, hb, hv⟩ := h
  refine (tb_texts w W t tr0 p q hb hg hF.tx).mono ?_
  rintro e W' ⟨he, hbb, hc⟩
  refine ⟨he, hbb, fun h0 => ?_⟩
  obtain ⟨q', hq, hz⟩ := hc h0
  exact ⟨fun j hj => by obtain rfl : j = 0 := by omega
                        exact h0, q', hq, fun _ => hz.trans (hv (by omega))⟩
theorem StI.decl {w W : World} {t : Tr} {p : TP} (h : StI w t p 1 W) (ht : TrM w t p) (hF : FB t) (hw : ∀ x ∈ t.V, (Lit.int .i64 x.sg).wf = true) : Calls Tryz.prog 54 #[.pointer (some ⟨w.heap.size, 0, none⟩)] W (StE w t p 1) := by
  obtain ⟨h0, q, hb, hv⟩ := h
  refine (tb_decl w W t _ p q hb ht rfl hF.l hF.n hw).mono ?_
  rintro e W' ⟨he, hbb, hc⟩
  refine ⟨he, hbb, fun h1 => ?_⟩
  obtain ⟨q', hq, hz⟩ := hc h1
  refine ⟨fun j hj => ?_, q', hq, fun _ => hz.trans (hv (by omega))⟩
  rcases Nat.lt_succ_iff_lt_or_eq.1 hj with h2 | rfl
  · exact h0 j h2
  · exact h1
theorem StI.types {w W : World} {t : Tr} {p : TP} (h : StI w t p 2 W) (hF : FB t) : Calls Tryz.prog 55 #[.pointer (some ⟨w.heap.size, 0, none⟩)] W (StE w t p 2) := by
  obtain ⟨h0, q, hb, hv⟩ := h
  obtain ⟨d1, d2, d3⟩ := decl_fit (h0 1 (by omega))
  refine (tb_types w W t _ p q hb d1 (by show (orderF t.S t.V).2.1.length ≤ 1000; rw [d3]; exact hF.l.2) (by show (sig1 t).length ≤ 1000; omega)).mono ?_
  rintro e W' ⟨he, hbb, hc⟩
  refine ⟨he, hbb, fun h1 => ?_⟩
  obtain ⟨q', hq, hz⟩ := hc h1
  refine ⟨fun j hj => ?_, q', hq, fun _ => hz.trans (hv (by omega))⟩
  rcases Nat.lt_succ_iff_lt_or_eq.1 hj with h2 | rfl
  · exact h0 j h2
  · exact h1
theorem StI.normal {w W : World} {t : Tr} {p : TP} (h : StI w t p 3 W) (hF : FB t) (hg : Glob w) : Calls Tryz.prog 56 #[.pointer (some ⟨w.heap.size, 0, none⟩)] W (StE w t p 3) := by
  obtain ⟨h0, q, hb, hv⟩ := h
  obtain ⟨d1, d2, d3⟩ := decl_fit (h0 1 (by omega))
  refine (tb_normal w W t _ p q hb hg (fun s hs => (sig1_fit hF s hs).1) (by show (sig1 t).length ≤ 1000; omega)).mono ?_
  rintro e W' ⟨he, hbb, hc⟩
  refine ⟨he, hbb, fun h1 => ?_⟩
  obtain ⟨q', hq, hz⟩ := hc h1
  refine ⟨fun j hj => ?_, q', hq, fun _ => hz.trans (hv (by omega))⟩
  rcases Nat.lt_succ_iff_lt_or_eq.1 hj with h2 | rfl
  · exact h0 j h2
  · exact h1
theorem StI.times {w W : World} {t : Tr} {p : TP} (h : StI w t p 4 W) (ht : TrM w t p) (hF : FB t) : Calls Tryz.prog 57 #[.pointer (some ⟨w.heap.size, 0, none⟩)] W (StE w t p 4) := by
  obtain ⟨h0, q, hb, hv⟩ := h
  obtain ⟨d1, d2, d3⟩ := decl_fit (h0 1 (by omega))
  have hnl : (normL (sig1 t)).length ≤ 1000 := by unfold normL; rw [List.length_map]; omega
  refine (tb_gaps w W t _ p q hb ht (by rw [hv (by omega)]; rfl) hF.p hnl (fun s hs => by have := (norm_fit hF (h0 3 (by omega)) s hs).2.1; omega)).mono ?_
  intro e W' hT
  have hT : TimesP w t p (stg t 4) (timesF t (normL (sig1 t))) e W' := hT
  unfold TimesP at hT
  cases hr : timesF t (normL (sig1 t)) with
  | none =>
    rw [hr] at hT
    obtain ⟨he, hbb, -⟩ := hT
    have h4 : cod t 4 = 2 := by rw [cod4, hr]
    exact ⟨by rw [h4]; exact he, hbb, fun h => by rw [h4] at h; cases h⟩
  | some r =>
    rw [hr] at hT
    obtain ⟨he, hbb, hc⟩ := hT
    have h4 : cod t 4 = 0 := by rw [cod4, hr]
    refine ⟨by rw [h4]; exact he, hbb, fun _ => ?_⟩
    obtain ⟨q', hq⟩ := hc rfl
    refine ⟨fun j hj => ?_, q', ?_, fun h => by omega⟩
    · rcases Nat.lt_succ_iff_lt_or_eq.1 hj with h2 | rfl
      · exact h0 j h2
      · exact h4
    · have e5 : stg t 5 = { stg t 4 with P := r.1, en := r.2 } := by
        obtain ⟨P, en⟩ := r
        show (match timesF t (normL (sig1 t)) with | none => tr0 | some (P, en) => _) = _
        rw [hr]; rfl
      rw [e5]; exact hq
theorem StI.clear {w W : World} {t : Tr} {p : TP} (h : StI w t p 5 W) (hF : FB t) (hg : Glob w) : Calls Tryz.prog 58 #[.pointer (some ⟨w.heap.size, 0, none⟩)] W (StE w t p 5) := by
  obtain ⟨h0, q, hb, hv⟩ := h
  obtain ⟨d1, d2, d3⟩ := decl_fit (h0 1 (by omega))
  have h4 := h0 4 (by omega)
  rw [cod4] at h4
  cases hr : timesF t (normL (sig1 t)) with
  | none => rw [hr] at h4; exact absurd h4 (by decide)
  | some r =>
    obtain ⟨P, en⟩ := r
    obtain ⟨f1, f2, f3⟩ := times_fit hF (h0 3 (by omega)) hr
    have e5 : stg t 5 = ⟨t.sc, t.dt, t.vn, t.cm, (orderF t.S t.V).1, (orderF t.S t.V).2.1, normL (sig1 t), P, en⟩ := by
      show (match timesF t (normL (sig1 t)) with | none => tr0 | some (P, en) => _) = _
      rw [hr]
    rw [e5] at hb
    have hnl : (normL (sig1 t)).length ≤ 1000 := by unfold normL; rw [List.length_map]; omega
    have c5 : cod t 5 = clearF P en (normL (sig1 t)) := by rw [cod5, hr]
    refine (tb_clear w W t _ p q hb hg (fun s hs => ?_) hnl f1 f2).mono ?_
    · obtain ⟨g1, g2, -⟩ := norm_fit hF (h0 3 (by omega)) s hs
      exact ⟨g1, by omega, offL_fit _ _ _ _ f3 _ f1 g1 (by omega)⟩
    rintro e W' ⟨he, hbb, hc⟩
    refine ⟨by rw [c5]; exact he, hbb, fun h1 => ?_⟩
    obtain ⟨q', hq⟩ := hc (by rw [← c5]; exact h1)
    have hall : ∀ j < 6, cod t j = 0 := fun j hj => by
      rcases Nat.lt_succ_iff_lt_or_eq.1 hj with h2 | rfl
      · exact h0 j h2
      · exact h1
    refine ⟨hall, q', ?_, fun h => by omega⟩
    obtain ⟨-, P2, en2, hr2, hb2⟩ := build_ok hall
    rw [hr] at hr2
    injection hr2 with hr2
    injection hr2 with e1 e2
    subst e1 e2
    show BI w t p (buildF t).1 q' W'
    rw [hb2]
    exact hq
set_option maxHeartbeats 3200000 in
set_option maxRecDepth 100000 in
theorem tb_steps (w W : World) (t : Tr) (p : TP) (h : StI w t p 0 W) (ht : TrM w t p) (hF : FB t) (hg : Glob w) (hm : Glm w) (hw : ∀ x ∈ t.V, (Lit.int .i64 x.sg).wf = true) :
    Calls Tryz.prog 52 #[.slice (some ⟨w.heap.size + 1, 0, none⟩) 6 6] W (StepP w t p (buildF t).2 (buildF t).1) := by
  have H0 := Lib.hid h
  have HT := Lib.hid ht
  have HF := Lib.hid hF
  have HG := Lib.hid hg
  have HM := Lib.hid hm
  have HW := Lib.hid hw
  clear h ht hF hg hm hw
  go_enter Tryz.func52, Tryz.ntmps52
  go_wp2_with fail
  go_loopw [8] (fun i wr => ∃ k : Nat, k ≤ 6 ∧ i = .int .i64 k ∧ StI w t p k wr) (fun i _ => 6 - (intOf i).toNat)
  case atStart => exact ⟨0, by omega, rfl, H0.out⟩
  case round =>
    obtain ⟨k, hk, rfl, hs⟩ := hrel
    have HS := Lib.hid hs
    obtain ⟨-, q, hq, -⟩ := hs
    have hkk := hq.k
    clear hq
    rcases (show k = 0 ∨ k = 1 ∨ k = 2 ∨ k = 3 ∨ k = 4 ∨ k = 5 ∨ k = 6 by omega) with rfl | rfl | rfl | rfl | rfl | rfl | rfl
    · have d0 := hkk.cell (j := 0) rfl
      clear hkk
      have HK := Lib.hid (HS.out.texts HF.out HM.out)
      go_wp2_with fail
      refine HK.out.mono ?_
      rintro e w1 ⟨rfl, hbb, hnx⟩
      by_cases hc : cod t 0 = 0
      · have HN := Lib.hid (hnx hc)
        rw [hc]
        clear hbb hnx hc d0 HK HS
        go_wp2_with fail
        go_roundw
        case rel => exact ⟨0 + 1, by omega, by go_num, HN.out⟩
        case measure => simp [intOf]
      · have bc : (cod t 0 == 0) = false := by simpa using hc
        have HB := Lib.hid hbb
        have HR := Lib.hid (build_cod (k := 0) (by omega) HS.out.1 hc)
        have HC := Lib.hid hc
        clear hbb hnx hc d0 HK HS
        go_wp2_with fail
        go_ret
        exact ⟨ret_int' HR.out.symm, HB.out, fun h => absurd (HR.out.symm.trans h) HC.out⟩
    · have d0 := hkk.cell (j := 1) rfl
      clear hkk
      have HK := Lib.hid (HS.out.decl HT.out HF.out HW.out)
      go_wp2_with fail
      refine HK.out.mono ?_
      rintro e w1 ⟨rfl, hbb, hnx⟩
      by_cases hc : cod t 1 = 0
      · have HN := Lib.hid (hnx hc)
        rw [hc]
        clear hbb hnx hc d0 HK HS
        go_wp2_with fail
        go_roundw
        case rel => exact ⟨1 + 1, by omega, by go_num, HN.out⟩
        case measure => simp [intOf]
      · have bc : (cod t 1 == 0) = false := by simpa using hc
        have HB := Lib.hid hbb
        have HR := Lib.hid (build_cod (k := 1) (by omega) HS.out.1 hc)
        have HC := Lib.hid hc
        clear hbb hnx hc d0 HK HS
        go_wp2_with fail
        go_ret
        exact ⟨ret_int' HR.out.symm, HB.out, fun h => absurd (HR.out.symm.trans h) HC.out⟩
    · have d0 := hkk.cell (j := 2) rfl
      clear hkk
      have HK := Lib.hid (HS.out.types HF.out)
      go_wp2_with fail
      refine HK.out.mono ?_
      rintro e w1 ⟨rfl, hbb, hnx⟩
      by_cases hc : cod t 2 = 0
      · have HN := Lib.hid (hnx hc)
        rw [hc]
        clear hbb hnx hc d0 HK HS
        go_wp2_with fail
        go_roundw
        case rel => exact ⟨2 + 1, by omega, by go_num, HN.out⟩
        case measure => simp [intOf]
      · have bc : (cod t 2 == 0) = false := by simpa using hc
        have HB := Lib.hid hbb
        have HR := Lib.hid (build_cod (k := 2) (by omega) HS.out.1 hc)
        have HC := Lib.hid hc
        clear hbb hnx hc d0 HK HS
        go_wp2_with fail
        go_ret
        exact ⟨ret_int' HR.out.symm, HB.out, fun h => absurd (HR.out.symm.trans h) HC.out⟩
    · have d0 := hkk.cell (j := 3) rfl
      clear hkk
      have HK := Lib.hid (HS.out.normal HF.out HG.out)
      go_wp2_with fail
      refine HK.out.mono ?_
      rintro e w1 ⟨rfl, hbb, hnx⟩
      by_cases hc : cod t 3 = 0
      · have HN := Lib.hid (hnx hc)
        rw [hc]
        clear hbb hnx hc d0 HK HS
        go_wp2_with fail
        go_roundw
        case rel => exact ⟨3 + 1, by omega, by go_num, HN.out⟩
        case measure => simp [intOf]
      · have bc : (cod t 3 == 0) = false := by simpa using hc
        have HB := Lib.hid hbb
        have HR := Lib.hid (build_cod (k := 3) (by omega) HS.out.1 hc)
        have HC := Lib.hid hc
        clear hbb hnx hc d0 HK HS
        go_wp2_with fail
        go_ret
        exact ⟨ret_int' HR.out.symm, HB.out, fun h => absurd (HR.out.symm.trans h) HC.out⟩
    · have d0 := hkk.cell (j := 4) rfl
      clear hkk
      have HK := Lib.hid (HS.out.times HT.out HF.out)
      go_wp2_with fail
      refine HK.out.mono ?_
      rintro e w1 ⟨rfl, hbb, hnx⟩
      by_cases hc : cod t 4 = 0
      · have HN := Lib.hid (hnx hc)
        rw [hc]
        clear hbb hnx hc d0 HK HS
        go_wp2_with fail
        go_roundw
        case rel => exact ⟨4 + 1, by omega, by go_num, HN.out⟩
        case measure => simp [intOf]
      · have bc : (cod t 4 == 0) = false := by simpa using hc
        have HB := Lib.hid hbb
        have HR := Lib.hid (build_cod (k := 4) (by omega) HS.out.1 hc)
        have HC := Lib.hid hc
        clear hbb hnx hc d0 HK HS
        go_wp2_with fail
        go_ret
        exact ⟨ret_int' HR.out.symm, HB.out, fun h => absurd (HR.out.symm.trans h) HC.out⟩
    · have d0 := hkk.cell (j := 5) rfl
      clear hkk
      have HK := Lib.hid (HS.out.clear HF.out HG.out)
      go_wp2_with fail
      refine HK.out.mono ?_
      rintro e w1 ⟨rfl, hbb, hnx⟩
      by_cases hc : cod t 5 = 0
      · have HN := Lib.hid (hnx hc)
        rw [hc]
        clear hbb hnx hc d0 HK HS
        go_wp2_with fail
        go_roundw
        case rel => exact ⟨5 + 1, by omega, by go_num, HN.out⟩
        case measure => simp [intOf]
      · have bc : (cod t 5 == 0) = false := by simpa using hc
        have HB := Lib.hid hbb
        have HR := Lib.hid (build_cod (k := 5) (by omega) HS.out.1 hc)
        have HC := Lib.hid hc
        clear hbb hnx hc d0 HK HS
        go_wp2_with fail
        go_ret
        exact ⟨ret_int' HR.out.symm, HB.out, fun h => absurd (HR.out.symm.trans h) HC.out⟩
    · clear hkk
      have HB := Lib.hid (build_ok HS.out.1)
      have HQ := Lib.hid (show ∃ q, BI w t p (buildF t).1 q wr by obtain ⟨-, q, hq, -⟩ := HS.out; exact ⟨q, hq⟩)
      go_wp2_with fail
      go_ret
      exact ⟨ret_int' HB.out.1.symm, by obtain ⟨q, hq⟩ := HQ.out; exact hq.b, fun _ => HQ.out⟩
end Go.Proofs.YtbiadennhnokhaaGreatDoor
/- trace.Build, Valid. -/
namespace Go.Proofs.YtbiadennhnokhaaGreatDoor
open Go.RowKit
set_option linter.unusedSimpArgs false

theorem build_err {t : Tr} (h : (buildF t).2 ≠ 0) : (buildF t).1 = tr0 := by
  unfold buildF at h ⊢
  split
  · rfl
  split
  · rfl
  split
  · rfl
  split
  · rfl
  rename_i h1 h2 h3 h4
  rw [if_neg h1, if_neg h2, if_neg h3, if_neg h4] at h
  cases e : timesF t (normL (sig1 t)) with
  | none => rfl
  | some r =>
    rw [e] at h
    obtain ⟨P, en⟩ := r
    dsimp only at h ⊢
    split
    · rfl
    · rename_i h5
      rw [if_neg h5] at h
      exact absurd rfl h
def tp0 : TP := ⟨.slice none 0 0, .slice none 0 0, .slice none 0 0, .slice none 0 0, []⟩
theorem tr0_in (w : World) : TrM w tr0 tp0 := ⟨SlR.nil w, SlR.nil w, ⟨SlR.nil w, fun x hx => by cases hx⟩, SlR.nil w, rfl⟩
set_option maxHeartbeats 3200000 in
set_option maxRecDepth 100000 in
theorem tr_Build (t : Tr) (p : TP) (w : World) (ht : TrM w t p) (hF : FB t) (hg : Glob w) (hm : Glm w) (hw : ∀ x ∈ t.V, (Lit.int .i64 x.sg).wf = true) :
    Calls Tryz.prog 14 #[p.v t] w fun e W' => ∃ q, e = .returned (.tuple #[q.v (buildF t).1, .int .i64 (buildF t).2]) ∧ TrM W' (buildF t).1 q ∧ Below w.heap.size w W' := by
  have HT := Lib.hid ht
  obtain ⟨a1, k1, e1, -, -⟩ := ht.s.shape
  obtain ⟨a2, k2, e2, -, -⟩ := ht.v.shape
  obtain ⟨a3, k3, e3, -, -⟩ := ht.g.s.shape
  obtain ⟨a4, k4, e4, -, -⟩ := ht.q.shape
  have HBE := Lib.hid (fun h => build_err (t := t) h)
  obtain ⟨wa, hwa⟩ : ∃ wa, wa = w.alloc (.cells #[.int .i64 t.sc, .string (bsB t.dt), .string (bsB t.vn), .string (bsB t.cm), p.vs, p.vv, p.vg, p.vp, .int .i64 t.en] 27) := ⟨_, rfl⟩
  obtain ⟨wb, hwb⟩ : ∃ wb, wb = wa.alloc (.cells #[.int .i64 0, .string ⟨#[]⟩, .string ⟨#[]⟩, .string ⟨#[]⟩, .slice none 0 0, .slice none 0 0, .slice none 0 0, .slice none 0 0, .int .i64 0] 27) := ⟨_, rfl⟩
  have hza : wa.heap.size = w.heap.size + 1 := by rw [hwa]; simp
  have hzb : wb.heap.size = w.heap.size + 1 + 1 := by rw [hwb, World.size_alloc, hza]
  have hba : Below w.heap.size w wa := by rw [hwa]; exact (Below.refl _ _).alloc (Nat.le_refl _) _
  have hbb : Below w.heap.size w wb := by rw [hwb]; exact hba.alloc (by omega) _
  have HBB := Lib.hid hbb
  have HR := Lib.hid (show OwnRow wb (w.heap.size + 1) [.int .i64 0, .string ⟨#[]⟩, .string ⟨#[]⟩, .string ⟨#[]⟩, .slice none 0 0, .slice none 0 0, .slice none 0 0, .slice none 0 0, .int .i64 0] by
    have := OwnRow.fresh wa #[.int .i64 0, .string ⟨#[]⟩, .string ⟨#[]⟩, .string ⟨#[]⟩, .slice none 0 0, .slice none 0 0, .slice none 0 0, .slice none 0 0, .int .i64 0] 27
    rw [hza, ← hwb] at this
    exact this)
  obtain ⟨w0, hw0⟩ : ∃ w0, w0 = (wb.alloc (.cells #[.int .i64 t.sc, .string (bsB t.dt), .string (bsB t.vn), .string (bsB t.cm), p.vs, p.vv, p.vg, p.vp, .int .i64 t.en, .int .i64 0, .string ⟨#[]⟩, .string ⟨#[]⟩, .string ⟨#[]⟩, .slice none 0 0, .slice none 0 0, .slice none 0 0, .slice none 0 0, .int .i64 0] 100)).alloc (.cells (fnsL wb.heap.size).toArray 102) := ⟨_, rfl⟩
  have hbw : Below wb.heap.size wb w0 := by rw [hw0]; exact ((Below.refl _ _).alloc (Nat.le_refl _) _).alloc (by simp) _
  have HST := Lib.hid (show StI wb t p 0 w0 from ⟨fun j hj => by omega, tp0,
    { x := by
        have := (OwnRow.fresh wb #[.int .i64 t.sc, .string (bsB t.dt), .string (bsB t.vn), .string (bsB t.cm), p.vs, p.vv, p.vg, p.vp, .int .i64 t.en, .int .i64 0, .string ⟨#[]⟩, .string ⟨#[]⟩, .string ⟨#[]⟩, .slice none 0 0, .slice none 0 0, .slice none 0 0, .slice none 0 0, .int .i64 0] 100).below ((Below.refl _ _).alloc (Nat.le_refl _) (.cells (fnsL wb.heap.size).toArray 102)) (by simp)
        rw [← hw0] at this
        exact this
      s := World.ownsRow_nil _ _ _ _
      v := World.ownsRow_nil _ _ _ _
      g := World.ownsRow_nil _ _ _ _
      c := fun x hx => by cases hx
      r := World.ownsRow_nil _ _ _ _
      m := rfl
      b := hbw
      k := by
        have := OwnRow.fresh (wb.alloc (.cells #[.int .i64 t.sc, .string (bsB t.dt), .string (bsB t.vn), .string (bsB t.cm), p.vs, p.vv, p.vg, p.vp, .int .i64 t.en, .int .i64 0, .string ⟨#[]⟩, .string ⟨#[]⟩, .string ⟨#[]⟩, .slice none 0 0, .slice none 0 0, .slice none 0 0, .slice none 0 0, .int .i64 0] 100)) (fnsL wb.heap.size).toArray 102
        rw [← hw0, World.size_alloc] at this
        exact this
      l := fun x hx => (ht.g.m x hx).below hbb }, fun _ => rfl⟩)
  have HSS := Lib.hid (tb_steps wb w0 t p HST.out (ht.below hbb) hF (hg.below hbb) (hm.below hbb) hw)
  obtain ⟨⟨u, c⟩, hB⟩ : ∃ r, r = buildF t := ⟨_, rfl⟩
  rw [← hB] at HSS HBE ⊢
  dsimp only at HSS HBE ⊢
  clear hB
  obtain ⟨Q, hQ⟩ : ∃ Q, Q = StepP wb t p c u := ⟨_, rfl⟩
  have hss := HSS.out
  rw [← hQ, hw0, hzb, hwb, hwa] at hss
  unfold fnsL at hss
  have HS2 := Lib.hid hss
  have HQ := Lib.hid hQ
  have HZB := Lib.hid hzb
  unfold TP.v
  rw [e1, e2, e3, e4] at hss ⊢
  have HS2 := Lib.hid hss
  clear ht hF hg hm hw HST hba hbb hbw hss HSS hw0 hwb hwa hza hQ
  go_enter Tryz.func14, Tryz.ntmps14
  go_wp2_with fail
  refine HS2.out.mono ?_
  intro e W' hq
  rw [HQ.out] at hq
  obtain ⟨rfl, hb1, hok⟩ := hq
  have HB1 := Lib.hid hb1
  have HRW := Lib.hid (HR.out.below hb1 (by rw [HZB.out]; omega))
  have HOK := Lib.hid hok
  clear hb1 hok HS2 HQ
  have r0 := HRW.out.cell (j := 0) rfl
  have f0 := HRW.out.free (j := 0) (by simp)
  have r1 := HRW.out.cell (j := 1) rfl
  have f1 := HRW.out.free (j := 1) (by simp)
  have r2 := HRW.out.cell (j := 2) rfl
  have f2 := HRW.out.free (j := 2) (by simp)
  have r3 := HRW.out.cell (j := 3) rfl
  have f3 := HRW.out.free (j := 3) (by simp)
  have r4 := HRW.out.cell (j := 4) rfl
  have f4 := HRW.out.free (j := 4) (by simp)
  have r5 := HRW.out.cell (j := 5) rfl
  have f5 := HRW.out.free (j := 5) (by simp)
  have r6 := HRW.out.cell (j := 6) rfl
  have f6 := HRW.out.free (j := 6) (by simp)
  have r7 := HRW.out.cell (j := 7) rfl
  have f7 := HRW.out.free (j := 7) (by simp)
  have r8 := HRW.out.cell (j := 8) rfl
  have f8 := HRW.out.free (j := 8) (by simp)
  by_cases hc0 : c = 0
  · subst hc0
    obtain ⟨q, hq⟩ := HOK.out rfl
    obtain ⟨qa, qk, eqs, -, -⟩ := (SlR.of_own hq.s).shape
    obtain ⟨qa2, qk2, eqv, -, -⟩ := (SlR.of_own hq.v).shape
    obtain ⟨qa3, qk3, eqg⟩ := hq.vgk
    obtain ⟨qa4, qk4, eqp, -, -⟩ := (SlR.of_own hq.r).shape
    have HQB := Lib.hid hq
    have b9 := hq.x.cell (j := 9) rfl
    have b10 := hq.x.cell (j := 10) rfl
    have b11 := hq.x.cell (j := 11) rfl
    have b12 := hq.x.cell (j := 12) rfl
    have b13 := hq.x.cell (j := 13) rfl
    have b14 := hq.x.cell (j := 14) rfl
    have b15 := hq.x.cell (j := 15) rfl
    have b16 := hq.x.cell (j := 16) rfl
    have b17 := hq.x.cell (j := 17) rfl
    rw [HZB.out] at b9 b10 b11 b12 b13 b14 b15 b16 b17
    rw [eqs] at b13
    rw [eqv] at b14
    rw [eqg] at b15
    rw [eqp] at b16
    have HEQS := Lib.hid eqs
    have HEQV := Lib.hid eqv
    have HEQG := Lib.hid eqg
    have HEQP := Lib.hid eqp
    clear hq HBE HOK e1 e2 e3 e4 eqs eqv eqg eqp
    go_wp2_with fail
    clear b9 b10 b11 b12 b13 b14 b15 b16 b17 r0 f0 r1 f1 r2 f2 r3 f3 r4 f4 r5 f5 r6 f6 r7 f7 r8 f8
    have HRF := Lib.hid (set9_row HRW.out (.int .i64 u.sc) (.string (bsB u.dt)) (.string (bsB u.vn)) (.string (bsB u.cm)) (.slice qa u.S.length qk) (.slice qa2 u.V.length qk2) (.slice qa3 q.M.length qk3) (.slice qa4 u.P.length qk4) (.int .i64 u.en))
    have HPF := Lib.hid (fun (e size n : Nat) (v : Value) (xs : List Value) (h : W'.ownsRow (wb.heap.size + 2) e size v n xs) => set9_own (b := w.heap.size + 1) h (by rw [HZB.out]; omega) (.int .i64 u.sc) (.string (bsB u.dt)) (.string (bsB u.vn)) (.string (bsB u.cm)) (.slice qa u.S.length qk) (.slice qa2 u.V.length qk2) (.slice qa3 q.M.length qk3) (.slice qa4 u.P.length qk4) (.int .i64 u.en))
    have HBF := Lib.hid (set9_below (b := w.heap.size + 1) (HBB.out.trans (HB1.out.mono (by rw [HZB.out]; omega))) (Nat.le_succ _) (.int .i64 u.sc) (.string (bsB u.dt)) (.string (bsB u.vn)) (.string (bsB u.cm)) (.slice qa u.S.length qk) (.slice qa2 u.V.length qk2) (.slice qa3 q.M.length qk3) (.slice qa4 u.P.length qk4) (.int .i64 u.en))
    unfold set9 at HRF HPF HBF
    generalize ((((((((W'.setCell _ _).setCell _ _).setCell _ _).setCell _ _).setCell _ _).setCell _ _).setCell _ _).setCell _ _).setCell _ _ = Wf at *
    have cx0 := HRF.out.cell (j := 0) rfl
    have cx1 := HRF.out.cell (j := 1) rfl
    have cx2 := HRF.out.cell (j := 2) rfl
    have cx3 := HRF.out.cell (j := 3) rfl
    have cx4 := HRF.out.cell (j := 4) rfl
    have cx5 := HRF.out.cell (j := 5) rfl
    have cx6 := HRF.out.cell (j := 6) rfl
    have cx7 := HRF.out.cell (j := 7) rfl
    have cx8 := HRF.out.cell (j := 8) rfl
    refine bodyPost_ret (v := .tuple #[.agg #[.int .i64 u.sc, .string (bsB u.dt), .string (bsB u.vn), .string (bsB u.cm), .slice qa u.S.length qk, .slice qa2 u.V.length qk2, .slice qa3 q.M.length qk3, .slice qa4 u.P.length qk4, .int .i64 u.en], .int .i64 0]) (by simp [results, Tryz.results14, go_sem, *]) rfl ?_
    refine ⟨q, by rw [HEQS.out, HEQV.out, HEQG.out, HEQP.out], ⟨SlR.of_own (HPF.out _ _ _ _ _ HQB.out.s), SlR.of_own (HPF.out _ _ _ _ _ HQB.out.v), ⟨SlR.of_own (HPF.out _ _ _ _ _ HQB.out.g), fun x hx => ?_⟩, SlR.of_own (HPF.out _ _ _ _ _ HQB.out.r), HQB.out.m⟩, HBF.out⟩
    rcases HQB.out.c x hx with h | h
    · exact (HT.out.g.m x h).below HBF.out
    · exact SlR.of_own (HPF.out _ _ _ _ _ h)
  · have bc : (c == 0) = false := by simpa using hc0
    have HU := Lib.hid (HBE.out hc0)
    clear HBE HOK e1 e2 e3 e4
    go_wp2_with fail
    clear r0 f0 r1 f1 r2 f2 r3 f3 r4 f4 r5 f5 r6 f6 r7 f7 r8 f8
    have HRF := Lib.hid (set9_row HRW.out (.int .i64 0) (.string ⟨#[]⟩) (.string ⟨#[]⟩) (.string ⟨#[]⟩) (.slice none 0 0) (.slice none 0 0) (.slice none 0 0) (.slice none 0 0) (.int .i64 0))
    have HBF := Lib.hid (set9_below (b := w.heap.size + 1) (HBB.out.trans (HB1.out.mono (by rw [HZB.out]; omega))) (Nat.le_succ _) (.int .i64 0) (.string ⟨#[]⟩) (.string ⟨#[]⟩) (.string ⟨#[]⟩) (.slice none 0 0) (.slice none 0 0) (.slice none 0 0) (.slice none 0 0) (.int .i64 0))
    unfold set9 at HRF HBF
    generalize ((((((((W'.setCell _ _).setCell _ _).setCell _ _).setCell _ _).setCell _ _).setCell _ _).setCell _ _).setCell _ _).setCell _ _ = Wf at *
    have cx0 := HRF.out.cell (j := 0) rfl
    have cx1 := HRF.out.cell (j := 1) rfl
    have cx2 := HRF.out.cell (j := 2) rfl
    have cx3 := HRF.out.cell (j := 3) rfl
    have cx4 := HRF.out.cell (j := 4) rfl
    have cx5 := HRF.out.cell (j := 5) rfl
    have cx6 := HRF.out.cell (j := 6) rfl
    have cx7 := HRF.out.cell (j := 7) rfl
    have cx8 := HRF.out.cell (j := 8) rfl
    refine bodyPost_ret (v := .tuple #[.agg #[.int .i64 0, .string ⟨#[]⟩, .string ⟨#[]⟩, .string ⟨#[]⟩, .slice none 0 0, .slice none 0 0, .slice none 0 0, .slice none 0 0, .int .i64 0], .int .i64 c]) (by simp [results, Tryz.results14, go_sem, *]) rfl ?_
    rw [HU.out]
    exact ⟨tp0, rfl, tr0_in _, HBF.out⟩
end Go.Proofs.YtbiadennhnokhaaGreatDoor
