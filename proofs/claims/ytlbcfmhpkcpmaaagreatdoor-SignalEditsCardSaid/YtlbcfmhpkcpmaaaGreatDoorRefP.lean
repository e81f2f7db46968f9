import Derived.Test.YtlbcfmhpkcpmaaaGreatDoorRefO
import Derived.Test.YtlbcfmhpkcpmaaaGreatDoorSig16
namespace Go.Proofs.YtlbcfmhpkcpmaaaGreatDoor
open Go.RowKit

theorem lo_end {m : List Ch} {t : Int} {a : Int} (hn : NonDec a m) (h : m[lo m t]? = none) : lo m (t + 1) = lo m t := by
  have h1 := lo_le m (t + 1)
  have h2 := List.getElem?_eq_none_iff.1 h
  have h3 := lo_mono hn (show t ≤ t + 1 by omega)
  omega
theorem lo_over {m : List Ch} {t : Int} {a : Int} {c : Ch} (hn : NonDec a m) (h : m[lo m t]? = some c) (hc : t < c.1) : lo m (t + 1) = lo m t := by
  obtain ⟨h1, h2⟩ := List.getElem?_eq_some_iff.1 h
  exact lo_stop h1 (lo_mono hn (by omega)) (by rw [h2]; omega)
/-- the list of Splice -/
def spB (k t : Int) : Bool := decide (t ≤ 1099511627776) && decide (k ≠ 3)
theorem splice_list {k n : Int} {l m : List Ch} (h : sv k n l = true) (h' : sv k n m = true) {t : Int} (h0 : 0 ≤ t) (h1 : t ≤ 1099511627777) :
    partL l 0 (t - 1) ++ (if spB k t = true then [(t, val (vi k n) m t)] else []) ++ partL m (if spB k t = true then t + 1 else t) 1099511627776 = spL k n l m t := by
  have hn := sv_nonDec h
  have hn' := sv_nonDec h'
  have hm := sv_mem h'
  have hf : lo m (1099511627776 + 1) = m.length := lo_full fun c hc => by have := hm c hc; omega
  unfold spL
  rw [partL_sorted hn 0 (t - 1) (by omega), lo_late hn (Int.le_refl _), List.drop_zero, show t - 1 + 1 = t by omega, List.append_assoc, List.append_assoc]
  congr 1
  cases hb : spB k t
  · have hs : spC k m t = false := by
      unfold spC
      unfold spB at hb
      rw [Bool.and_eq_false_iff] at hb ⊢
      rcases hb with hb | hb
      · exact .inr (by rw [hb]; rfl)
      · exact .inl hb
    rw [hs, if_neg (by simp), if_neg (by simp), if_neg (by simp), partL_sorted hn' _ _ (by omega), hf, List.take_length]
  · unfold spB at hb
    rw [Bool.and_eq_true, decide_eq_true_iff, decide_eq_true_iff] at hb
    obtain ⟨ht, hk⟩ := hb
    rw [if_pos rfl, if_pos rfl, partL_sorted hn' _ _ (by omega), hf, List.take_length]
    cases hc : m[lo m t]? with
    | none =>
      have hs : spC k m t = true := by unfold spC; rw [hc]; simp [hk, ht]
      rw [hs, if_pos rfl, valAt_eq h', lo_end hn' hc]
    | some c =>
      by_cases hct : t < c.1
      · have hs : spC k m t = true := by unfold spC; rw [hc]; simp [hk, ht, hct]
        rw [hs, if_pos rfl, valAt_eq h', lo_over hn' hc hct]
      · have hs : spC k m t = false := by unfold spC; rw [hc]; simp [hct]
        obtain ⟨g1, g2⟩ := List.getElem?_eq_some_iff.1 hc
        have hge := (lo_split t m 0 hn').2
        rw [List.drop_eq_getElem_cons g1] at hge
        have hct2 : c.1 = t := by have := hge.1; rw [g2] at this; omega
        have hlo : lo m (t + 1) = lo m t + 1 := by
          have e1 := lo_go (t := t + 1) g1 (lo_mono hn' (by omega)) (by rw [g2]; omega)
          have e2 := lo_two (t := t) m (-1) (vi k n) (sv_iff.1 h').2.2
          split at e2 <;> omega
        have hval : val (vi k n) m t = c.2 := by
          rw [← valAt_eq h']
          unfold valAt
          rw [if_neg hk, hlo]
          simp only [List.getD, hc]
          rfl
        rw [hs, if_neg (by simp), hval, hlo, List.nil_append, List.drop_eq_getElem_cons g1, g2, ← hct2]
        rfl

theorem cell_set3_ne {w : World} {b b' o : Nat} {x : Value} (hb : b' ≠ b) (h : w.cell? ⟨b', o, none⟩ = some x) (p q r : Value) :
    (((w.setCell ⟨b, 0, none⟩ p).setCell ⟨b, 1, none⟩ q).setCell ⟨b, 2, none⟩ r).cell? ⟨b', o, none⟩ = some x := by
  rw [World.cell?_setCell_other (h := by intro e; injection e with e1 _ _; exact hb e1.symm), World.cell?_setCell_other (h := by intro e; injection e with e1 _ _; exact hb e1.symm), World.cell?_setCell_other (h := by intro e; injection e with e1 _ _; exact hb e1.symm)]
  exact h

set_option maxHeartbeats 3200000 in
set_option maxRecDepth 100000 in
theorem ref_Splice (k n k2 n2 : Int) (v u : Value) (l m : List Ch) (t : Int) (w : World) (hs : SlR w v l.length (chs l)) (hf : Fit l) (hs2 : SlR w u m.length (chs m)) (hf2 : Fit m) :
    Calls Tryz.prog 34 #[.agg #[.int .i64 k, .int .i64 n, v], .agg #[.int .i64 k2, .int .i64 n2, u], .int .i64 t] w (SigPost (spliceR k n l k2 n2 m t) w) := by
  obtain ⟨a, cap, rfl, hc, hm⟩ := hs.shape
  obtain ⟨a2, cap2, rfl, hc2, hm2⟩ := hs2.shape
  have hst := SpSt.start w k n a l.length cap k2 n2 a2 m.length cap2 24
  have HV := Lib.hid (ref_sValid k n _ l _ (hs.below hst.b) hf)
  have HV2 := Lib.hid (fun W hS => ref_sValid k2 n2 (.slice a2 m.length cap2) m W hS hf2)
  have HST := Lib.hid hst
  have HS := Lib.hid hs
  have HSM := Lib.hid hs2
  unfold maxLen at hm hm2
  clear hs hf hst hs2 hf2
  cases hv : sv k n l
  · have HR := Lib.hid (show spliceR k n l k2 n2 m t = ((0, 0, []), 1) by unfold spliceR; rw [if_pos (.inl hv)])
    rw [hv] at HV
    clear hv
    go_enter Tryz.func34, Tryz.ntmps34
    go_wp2_with fail
    refine HV.out.mono ?_
    rintro e w1 ⟨rfl, hb⟩
    have H1 := Lib.hid (HST.out.later hb (by simp))
    clear hb
    obtain ⟨⟨c0, c1, c2⟩, ⟨d0, d1, d2⟩, ⟨p0, p1, p2⟩, q0, q1, q2⟩ := (H1.out).facts
    go_wp2_with fail
    obtain ⟨⟨e0, e1, e2⟩, hbb⟩ := (H1.out).fin (.int .i64 0) (.int .i64 0) (.slice none 0 0)
    refine bodyPost_ret (v := .tuple #[.agg #[.int .i64 0, .int .i64 0, .slice none 0 0], .int .i64 1]) (by simp [results, Tryz.results34, go_sem, e0, e1, e2]) rfl ?_
    rw [HR.out]
    exact SigPost.zero 1 hbb
  cases hv2 : sv k2 n2 m
  · have HR := Lib.hid (show spliceR k n l k2 n2 m t = ((0, 0, []), 1) by unfold spliceR; rw [if_pos (.inr hv2)])
    rw [hv] at HV
    rw [hv2] at HV2
    clear hv hv2
    go_enter Tryz.func34, Tryz.ntmps34
    go_wp2_with fail
    refine HV.out.mono ?_
    rintro e w1 ⟨rfl, hb⟩
    have H1 := Lib.hid (HST.out.later hb (by simp))
    clear hb
    obtain ⟨⟨c0, c1, c2⟩, ⟨d0, d1, d2⟩, ⟨p0, p1, p2⟩, q0, q1, q2⟩ := (H1.out).facts
    go_wp2_with fail
    refine (HV2.out _ (HSM.out.below H1.out.b)).mono ?_
    rintro e w2 ⟨rfl, hb⟩
    have H2 := Lib.hid (H1.out.later hb H1.out.z)
    clear hb
    clear c0 c1 c2 d0 d1 d2 p0 p1 p2 q0 q1 q2
    obtain ⟨⟨c0, c1, c2⟩, ⟨d0, d1, d2⟩, ⟨p0, p1, p2⟩, q0, q1, q2⟩ := (H2.out).facts
    go_wp2_with fail
    obtain ⟨⟨e0, e1, e2⟩, hbb⟩ := (H2.out).fin (.int .i64 0) (.int .i64 0) (.slice none 0 0)
    refine bodyPost_ret (v := .tuple #[.agg #[.int .i64 0, .int .i64 0, .slice none 0 0], .int .i64 1]) (by simp [results, Tryz.results34, go_sem, e0, e1, e2]) rfl ?_
    rw [HR.out]
    exact SigPost.zero 1 hbb
  have HR1 : Hid (spliceR k n l k2 n2 m t = if k ≠ k2 ∨ n ≠ n2 then ((0, 0, []), 7) else if t < 0 ∨ 1099511627777 < t then ((0, 0, []), 2) else madeR k n (spL k n l m t)) := Lib.hid (by unfold spliceR; rw [if_neg (by rw [hv, hv2]; simp)])
  have hll := (sv_iff.1 hv).2.1
  have hml := (sv_iff.1 hv2).2.1
  have HSV := Lib.hid hv
  have HSV2 := Lib.hid hv2
  rw [hv] at HV
  rw [hv2] at HV2
  clear hv hv2
  by_cases hkn : k ≠ k2 ∨ n ≠ n2
  · have HR := Lib.hid (show spliceR k n l k2 n2 m t = ((0, 0, []), 7) by rw [HR1.out, if_pos hkn])
    have hkn2 : ((k != k2) = true) ∨ ((k != k2) = false ∧ (n != n2) = true) := by
      by_cases h : k = k2
      · exact .inr ⟨by rw [bne_eq_false_iff_eq]; exact h, by rw [bne_iff_ne]; rcases hkn with h' | h'; exact absurd h h'; exact h'⟩
      · exact .inl (by rw [bne_iff_ne]; exact h)
    clear hkn HR1
    rcases hkn2 with g1 | ⟨g1, g2⟩
    all_goals
      go_enter Tryz.func34, Tryz.ntmps34
      go_wp2_with fail
      refine HV.out.mono ?_
      rintro e w1 ⟨rfl, hb⟩
      have H1 := Lib.hid (HST.out.later hb (by simp))
      clear hb
      obtain ⟨⟨c0, c1, c2⟩, ⟨d0, d1, d2⟩, ⟨p0, p1, p2⟩, q0, q1, q2⟩ := (H1.out).facts
      go_wp2_with fail
      refine (HV2.out _ (HSM.out.below H1.out.b)).mono ?_
      rintro e w2 ⟨rfl, hb⟩
      have H2 := Lib.hid (H1.out.later hb H1.out.z)
      clear hb
      clear c0 c1 c2 d0 d1 d2 p0 p1 p2 q0 q1 q2
      obtain ⟨⟨c0, c1, c2⟩, ⟨d0, d1, d2⟩, ⟨p0, p1, p2⟩, q0, q1, q2⟩ := (H2.out).facts
      go_wp2_with fail
      obtain ⟨⟨e0, e1, e2⟩, hbb⟩ := (H2.out).fin (.int .i64 0) (.int .i64 0) (.slice none 0 0)
      refine bodyPost_ret (v := .tuple #[.agg #[.int .i64 0, .int .i64 0, .slice none 0 0], .int .i64 7]) (by simp [results, Tryz.results34, go_sem, e0, e1, e2]) rfl ?_
      rw [HR.out]
      exact SigPost.zero 7 hbb
  obtain ⟨rfl, rfl⟩ : k = k2 ∧ n = n2 := by
    constructor
    · exact Classical.not_not.1 fun h => hkn (.inl h)
    · exact Classical.not_not.1 fun h => hkn (.inr h)
  have HR2 := Lib.hid (HR1.out.trans (if_neg hkn))
  clear hkn HR1
  by_cases hr : t < 0 ∨ 1099511627777 < t
  · have HR := Lib.hid (show spliceR k n l k n m t = ((0, 0, []), 2) by rw [HR2.out, if_pos hr])
    have hr3 : t < 0 ∨ (0 ≤ t ∧ 1099511627777 < t) := by omega
    clear hr HR2
    rcases hr3 with h1 | ⟨h1, h2⟩
    all_goals
      go_enter Tryz.func34, Tryz.ntmps34
      go_wp2_with fail
      refine HV.out.mono ?_
      rintro e w1 ⟨rfl, hb⟩
      have H1 := Lib.hid (HST.out.later hb (by simp))
      clear hb
      obtain ⟨⟨c0, c1, c2⟩, ⟨d0, d1, d2⟩, ⟨p0, p1, p2⟩, q0, q1, q2⟩ := (H1.out).facts
      go_wp2_with fail
      refine (HV2.out _ (HSM.out.below H1.out.b)).mono ?_
      rintro e w2 ⟨rfl, hb⟩
      have H2 := Lib.hid (H1.out.later hb H1.out.z)
      clear hb
      clear c0 c1 c2 d0 d1 d2 p0 p1 p2 q0 q1 q2
      obtain ⟨⟨c0, c1, c2⟩, ⟨d0, d1, d2⟩, ⟨p0, p1, p2⟩, q0, q1, q2⟩ := (H2.out).facts
      go_wp2_with fail
      obtain ⟨⟨e0, e1, e2⟩, hbb⟩ := (H2.out).fin (.int .i64 0) (.int .i64 0) (.slice none 0 0)
      refine bodyPost_ret (v := .tuple #[.agg #[.int .i64 0, .int .i64 0, .slice none 0 0], .int .i64 2]) (by simp [results, Tryz.results34, go_sem, e0, e1, e2]) rfl ?_
      rw [HR.out]
      exact SigPost.zero 2 hbb
  have HR := Lib.hid (HR2.out.trans (if_neg hr))
  obtain ⟨h0, h1⟩ : 0 ≤ t ∧ t ≤ 1099511627777 := by omega
  clear hr HR2
  have HPL := Lib.hid (splice_list HSV.out HSV2.out h0 h1)
  go_enter Tryz.func34, Tryz.ntmps34
  go_wp2_with fail
  refine HV.out.mono ?_
  rintro e w1 ⟨rfl, hb⟩
  have H1 := Lib.hid (HST.out.later hb (by simp))
  clear hb HST
  obtain ⟨⟨c0, c1, c2⟩, ⟨d0, d1, d2⟩, ⟨p0, p1, p2⟩, q0, q1, q2⟩ := (H1.out).facts
  go_wp2_with fail
  refine (HV2.out _ (HSM.out.below H1.out.b)).mono ?_
  rintro e w2 ⟨rfl, hb⟩
  have H2 := Lib.hid (H1.out.later hb H1.out.z)
  clear hb
  clear c0 c1 c2 d0 d1 d2 p0 p1 p2 q0 q1 q2
  obtain ⟨⟨c0, c1, c2⟩, ⟨d0, d1, d2⟩, ⟨p0, p1, p2⟩, q0, q1, q2⟩ := (H2.out).facts
  have HS2 := Lib.hid (HS.out.below H2.out.b)
  have HSM2 := Lib.hid (HSM.out.below H2.out.b)
  have hz2 := H2.out.z
  obtain ⟨i0, hi, iz0, iz1, iz2⟩ := info_parts (P := Tryz.prog) change_info
  have hwf : IntKind.i64.wrap (t - 1) = t - 1 := IntWalk.i64_in _ (by omega)
  go_wp2_with fail
  refine (ref_Part _ l 0 (t - 1) _ HS2.out (by omega)).mono ?_
  rintro e w3 ⟨v3, rfl, ho, hb⟩
  have hl3 := partL_len l 0 (t - 1)
  generalize partL l 0 (t - 1) = r3 at ho HPL hl3 ⊢
  obtain ⟨a3, c3, rfl, -, -⟩ := (SlR.of_own ho).shape
  have HO3 := Lib.hid ho
  have HB3 := Lib.hid hb
  have H3 := Lib.hid (H2.out.later hb hz2)
  clear ho hb hwf
  clear c0 c1 c2 d0 d1 d2 p0 p1 p2 q0 q1 q2
  obtain ⟨⟨c0, c1, c2⟩, ⟨d0, d1, d2⟩, ⟨p0, p1, p2⟩, q0, q1, q2⟩ := (H3.out).facts
  go_upto_region 8 with fail
  go_cut [52] (fun v wc => v = .bool (spB k t) ∧ wc = w3)
  case first =>
    by_cases g1 : t ≤ 1099511627776
    · by_cases g2 : k = 3
      · have HT := Lib.hid (show spB k t = false by unfold spB; simp [g2])
        have g3 : (k != 3) = false := by rw [bne_eq_false_iff_eq]; exact g2
        clear g2
        go_wp2_with fail
        go_meet
        case rel => exact ⟨by rw [HT.out], rfl⟩
      · have HT := Lib.hid (show spB k t = true by unfold spB; simp [g1, g2])
        have g3 : (k != 3) = true := by rw [bne_iff_ne]; exact g2
        clear g2
        go_wp2_with fail
        go_meet
        case rel => exact ⟨by rw [HT.out], rfl⟩
    · have HT := Lib.hid (show spB k t = false by unfold spB; simp [g1])
      have g2 : 1099511627776 < t := by omega
      clear g1
      go_wp2_with fail
      go_meet
      case rel => exact ⟨by rw [HT.out], rfl⟩
  case rest =>
    obtain ⟨rfl, rfl⟩ := hcut
    go_upto_if 52 with fail
    go_cut [8, 2] (fun s10 s2 wc => ∃ (a1 : Option Addr) (c1 : Nat) (r : List Ch) (t2 : Int), r = r3 ++ (if spB k t = true then [(t, val (vi k n) m t)] else []) ∧ t2 = (if spB k t = true then t + 1 else t) ∧ s2 = .int .i64 t2 ∧ s10 = .slice a1 r.length c1 ∧ wc.ownsRow w2.heap.size 36 2 s10 r.length (chs r) ∧ Below w2.heap.size w2 wc)
    case first =>
      cases hb : spB k t
      · have HT := Lib.hid hb
        clear hb
        go_wp2_with fail
        go_meet
        case rel => exact ⟨a3, c3, r3, t, by rw [if_neg (by rw [HT.out]; simp), List.append_nil], by rw [if_neg (by rw [HT.out]; simp)], rfl, rfl, HO3.out, HB3.out⟩
      · have HT := Lib.hid hb
        have g1 : t ≤ 1099511627776 := by unfold spB at hb; simp at hb; exact hb.1
        clear hb
        go_wp2_with fail
        refine (ref_Value k n _ m t _ (HSM2.out.below HB3.out)).mono ?_
        rintro e w6 ⟨rfl, hb6⟩
        obtain ⟨x, hx⟩ : ∃ x, x = val (vi k n) m t := ⟨_, rfl⟩
        rw [← hx]
        have HX := Lib.hid hx
        clear hx
        have ho6 := (HO3.out).kept (row := none) (w' := w6) ⟨hb6.os, hb6.tape, hb6.output, hb6.size, fun i hi _ => hb6.block i hi⟩ (by cases a3 with | none => exact .inl rfl | some ad => exact .inr (by simp [Value.ownBlock]))
        have HO6 := Lib.hid ho6
        have HB6 := Lib.hid (HB3.out.trans (hb6.mono HB3.out.size))
        clear ho6 hb6
        clear c0 c1 c2 d0 d1 d2 p0 p1 p2 q0 q1 q2
        go_wp2_with (at_builtin; refine wpList_append_own _ rfl _ _ 22 rfl w2.heap.size 36 i0 (.agg #[.int .i64 0, .string ⟨#[]⟩]) 2 24 Tryz.underlying22 hi iz0 iz1 iz2 rfl (by decide) _ _ _ rfl (World.ownsRow.alloc (by exact HO6.out) _) ⟨w6.heap.size, 0, none⟩ 1 1 [.int .i64 t, .string x] rfl rfl (World.news_of_block (cs := #[.int .i64 t, .string x]) (t := 36) (fr := (0, 0)) (by exact heap_alloc_new w6 _)) (by simp [Value.oneCell']) (by unfold maxLen; omega) (by omega) (by have := HB6.out.size; simp; omega) ?_)
        intro v7 w7 ho7 hg7 _
        obtain ⟨a7, c7, rfl, -, -⟩ := (SlR.of_own ho7).shape
        have hb7 : Below w2.heap.size w2 w7 := (HB6.out.alloc HB6.out.size _).grown hg7 (by have := HB6.out.size; simp; omega) (fun q hq => (HO6.out.lt q hq).1)
        have HO7 := Lib.hid ho7
        have HB7 := Lib.hid hb7
        clear ho7 hg7 hb7
        go_wp2_with fail
        go_meet
        case rel => exact ⟨a7, c7, r3 ++ [(t, x)], t + 1, by rw [if_pos HT.out, HX.out], by rw [if_pos HT.out], rfl, by simp, by have := HO7.out; rw [chs_append]; simpa [chs, encC] using this, HB7.out⟩
    case rest =>
      obtain ⟨a6, c6, r, t2, hr, ht2, rfl, rfl, ho7, hb7⟩ := hcut
      have hl7 : r.length ≤ 6000 := by rw [hr]; split <;> simp <;> omega
      obtain ⟨x, hmm⟩ : ∃ x, x = partL m t2 1099511627776 := ⟨_, rfl⟩
      have hlm : x.length ≤ 5000 := by rw [hmm]; have := partL_len m t2 1099511627776; omega
      have HRM := Lib.hid (show madeR k n (r ++ x) = spliceR k n l k n m t by rw [HR.out, ← HPL.out, hr, hmm, ht2])
      have HPT := Lib.hid (fun W hS => ref_Part (.slice a2 m.length cap2) m t2 1099511627776 W hS (by omega))
      rw [← hmm] at HPT
      have H7 := Lib.hid (H2.out.later hb7 hz2)
      have HO7 := Lib.hid ho7
      have HB7 := Lib.hid hb7
      have HSM7 := Lib.hid (HSM2.out.below hb7)
      clear hr ho7 hb7 hmm H3 HO3 HB3 HPL HR ht2
      clear c0 c1 c2 d0 d1 d2 p0 p1 p2 q0 q1 q2
      obtain ⟨⟨c0, c1, c2⟩, ⟨d0, d1, d2⟩, ⟨p0, p1, p2⟩, q0, q1, q2⟩ := (H7.out).facts
      go_upto_region 11 with fail
      go_region_held3 (fun w' => w'.cell? ⟨w.heap.size, 0, none⟩ = some (.int .i64 k) ∧ w'.cell? ⟨w.heap.size, 1, none⟩ = some (.int .i64 n) ∧ w'.cell? ⟨w.heap.size + 1, 2, none⟩ = some (.slice a2 m.length cap2)) (first | exact ⟨v0, v1, v2⟩ | exact ⟨r0, r1, r2⟩ | exact ⟨s0, s1, s2⟩ | exact ⟨cell_set3_ne (by omega) v0 _ _ _, cell_set3_ne (by omega) v1 _ _ _, cell_set3_ne (by omega) v2 _ _ _⟩ | go_keep)
        (first
          | (go_at_call 59; (with_reducible refine (HPT.out wc.drew ?_).mono ?_); (exact HSM7.out); rintro e w8 ⟨v8, rfl, ho8, hb8⟩; obtain ⟨a8, c8, rfl, -, -⟩ := (SlR.of_own ho8).shape; have HP8 := Lib.hid (SlR.of_own ho8); have HB8 := Lib.hid (HB7.out.drew.trans (hb8.mono HB7.out.size)); have HO8 := Lib.hid ((HO7.out.drew).kept (row := none) (w' := w8) ⟨hb8.os, hb8.tape, hb8.output, hb8.size, fun i hi _ => hb8.block i hi⟩ (by cases a6 with | none => exact .inl rfl | some ad => exact .inr (by simp [Value.ownBlock]))); have s0 := (hb8.cell (p := ⟨w.heap.size, 0, none⟩) (cell_lt c0)).trans c0; have s1 := (hb8.cell (p := ⟨w.heap.size, 1, none⟩) (cell_lt c0)).trans c1; have s2 := (hb8.cell (p := ⟨w.heap.size + 1, 2, none⟩) (cell_lt d0)).trans d2; clear hb8 ho8)
          | ((refine step_append_sl _ (by rfl) _ _ _ (by rfl) w2.heap.size 36 i0 (.agg #[.int .i64 0, .string ⟨#[]⟩]) 2 24 Tryz.underlying22 hi iz0 iz1 iz2 rfl (by decide) (.slice a6 r.length c6) r.length (chs r) (by rfl) (by exact HO8.out)
                _ x.length _ (chs x) (by rfl) (by exact HP8.out) (by rw [chs_len, Nat.mul_comm]) (chs_one _) (by unfold maxLen; omega) (by omega) (by exact HB8.out.size) ?_); intro a9 c9 w9 ho9 hg9; have HB9 := Lib.hid (HB8.out.grown hg9 HB8.out.size (fun q hq => (HO8.out.lt q hq).1)); have HS9 := Lib.hid (slr_two a9 c9 r x ho9); clear ho9 hg9; have H9 := Lib.hid (H2.out.later HB9.out hz2); have r0 := H9.out.s.cell (j := 0) rfl; have r1 := H9.out.s.cell (j := 1) rfl; have r2 := H9.out.y.cell (j := 2) rfl)
          | (go_at_call 51; (with_reducible refine (ref_build k n _ (r ++ x) _ ?_ ?_).mono ?_); (exact HS9.out); (rw [List.length_append]; omega); rintro e w10 ⟨v10, rfl, ho10, hb10⟩; obtain ⟨a10, c10, rfl, -, -⟩ := (SlR.of_own ho10).shape; have HO10 := Lib.hid ho10; have HB10 := Lib.hid (HB9.out.trans (hb10.mono HB9.out.size)); clear ho10 hb10; have H10 := Lib.hid (H2.out.later HB10.out hz2); have v0 := H10.out.s.cell (j := 0) rfl; have v1 := H10.out.s.cell (j := 1) rfl; have v2 := H10.out.y.cell (j := 2) rfl; have x0 := H10.out.r.cell (j := 0) rfl; have x1 := H10.out.r.cell (j := 1) rfl; have x2 := H10.out.r.cell (j := 2) rfl; have y0 := H10.out.r.free (j := 0) (by simp); have y1 := H10.out.r.free (j := 1) (by simp); have y2 := H10.out.r.free (j := 2) (by simp)))
      all_goals go_wp2_with fail
      all_goals try (simp only [Exit.then]; apply_assumption; go_wp2_with fail)
      all_goals
        obtain ⟨⟨g0, g1, g2⟩, hbb⟩ := H10.out.fin (.int .i64 (madeR k n (r ++ x)).1.1) (.int .i64 (madeR k n (r ++ x)).1.2.1) (.slice a10 (madeR k n (r ++ x)).1.2.2.length c10)
        refine bodyPost_ret (v := .tuple #[.agg #[.int .i64 (madeR k n (r ++ x)).1.1, .int .i64 (madeR k n (r ++ x)).1.2.1, .slice a10 (madeR k n (r ++ x)).1.2.2.length c10], .int .i64 (madeR k n (r ++ x)).2]) (by simp [results, Tryz.results34, go_sem, g0, g1, g2]) rfl ?_
        rw [← HRM.out]
        exact ⟨_, rfl, ownsRow_base (ownsRow_set3 HO10.out (by have := HB9.out.size; omega) _ _ _) (by have := HB9.out.size; omega), hbb⟩
end Go.Proofs.YtlbcfmhpkcpmaaaGreatDoor
