import Derived.Test.YtlbcfmhpkcpmaaaGreatDoorRefP
import Derived.Test.YtlbcfmhpkcpmaaaGreatDoorSig14
namespace Go.Proofs.YtlbcfmhpkcpmaaaGreatDoor
open Go.RowKit

/-- is a shifted change kept -/
def shK (k by_ t : Int) : Bool := decide (0 < t) || (decide (t = 0) && (decide (0 ≤ by_) || decide (k = 3)))
def shF (k by_ : Int) (l : List Ch) : List Ch := (l.map (shC by_)).filter fun c => shK k by_ c.1
theorem shF_snoc (k by_ : Int) (l : List Ch) (j : Nat) (h : j < l.length) : shF k by_ (l.take (j + 1)) = shF k by_ (l.take j) ++ (if shK k by_ (l[j].1 + by_) = true then [(l[j].1 + by_, l[j].2)] else []) := by
  rw [List.take_succ_eq_append_getElem h]
  unfold shF
  rw [List.map_append, List.filter_append, List.map_cons, List.map_nil, List.filter_cons, List.filter_nil]
  rfl
theorem shF_len (k by_ : Int) (l : List Ch) : (shF k by_ l).length ≤ l.length := by
  unfold shF
  have := List.length_filter_le (fun c : Ch => shK k by_ c.1) (l.map (shC by_))
  rwa [List.length_map] at this
def shS (k by_ : Int) : Bool := decide (by_ < 0) && decide (k ≠ 3)
theorem shift_list {k n : Int} {l : List Ch} (h : sv k n l = true) (by_ : Int) :
    madeR k n ((if shS k by_ = true then [(0, val (vi k n) l (-by_))] else []) ++ shF k by_ l) = if 0 ≤ by_ ∨ k = 3 then madeR k n (eachL (shG by_) l) else madeR k n (shTail k n l by_) := by
  by_cases hb : 0 ≤ by_ ∨ k = 3
  · rw [if_pos hb, if_neg (by unfold shS; simp; omega), List.nil_append]
    congr 1
    have hk : ∀ t, shK k by_ t = decide (0 ≤ t) := by
      intro t
      unfold shK
      rw [Bool.eq_iff_iff]
      simp
      omega
    unfold shF eachL
    induction l with
    | nil => rfl
    | cons c l ih =>
      have hl : ∀ l : List Ch, (l.map (shC by_)).filter (fun c => shK k by_ c.1) = l.filterMap (fun c => if (shG by_ c).2 = true then some (shG by_ c).1 else none) := by
        intro l
        induction l with
        | nil => rfl
        | cons c l ih =>
          rw [List.map_cons, List.filter_cons, List.filterMap_cons, ih, hk]
          by_cases hc : 0 ≤ c.1 + by_
          · have e1 : decide (0 ≤ (shC by_ c).1) = true := decide_eq_true hc
            have e2 : (shG by_ c).2 = true := decide_eq_true hc
            rw [e1, e2]; rfl
          · have e1 : decide (0 ≤ (shC by_ c).1) = false := decide_eq_false hc
            have e2 : (shG by_ c).2 = false := decide_eq_false hc
            rw [e1, e2]; rfl
      exact hl _
  · rw [if_neg hb, if_pos (by unfold shS; simp; omega)]
    congr 1
    unfold shTail
    rw [valAt_eq h]
    show (0, val (vi k n) l (-by_)) :: shF k by_ l = (0, val (vi k n) l (-by_)) :: (l.drop (lo l (-by_ + 1))).map (fun c => (c.1 + by_, c.2))
    refine congrArg _ ?_
    have hk : ∀ t, shK k by_ t = decide (0 < t) := by
      intro t
      unfold shK
      rw [Bool.eq_iff_iff]
      simp
      omega
    have hs := lo_split (-by_ + 1) l 0 (sv_nonDec h)
    unfold shF
    conv => lhs; rw [← List.take_append_drop (lo l (-by_ + 1)) l, List.map_append, List.filter_append]
    rw [List.filter_eq_nil_iff.2 (fun c hc => by
      obtain ⟨d, hd, rfl⟩ := List.mem_map.1 hc
      have := hs.1 d hd
      show ¬ (shK k by_ (d.1 + by_) = true)
      rw [hk, decide_eq_true_iff]
      omega), List.nil_append, List.filter_eq_self.2 (fun c hc => by
      obtain ⟨d, hd, rfl⟩ := List.mem_map.1 hc
      have := hs.2.mem d hd
      show shK k by_ (d.1 + by_) = true
      rw [hk, decide_eq_true_iff]
      omega)]
    rfl


set_option maxHeartbeats 3200000 in
set_option maxRecDepth 100000 in
theorem ref_Shift (k n : Int) (v : Value) (l : List Ch) (by_ : Int) (w : World) (hs : SlR w v l.length (chs l)) (hf : Fit l) :
    Calls Tryz.prog 36 #[.agg #[.int .i64 k, .int .i64 n, v], .int .i64 by_] w (SigPost (shiftR k n l by_) w) := by
  obtain ⟨a, cap, rfl, hc, hm⟩ := hs.shape
  have hst := EdSt.start w k n a l.length cap 24
  have HV := Lib.hid (ref_sValid k n _ l _ (hs.below hst.b) hf)
  have HST := Lib.hid hst
  have HS := Lib.hid hs
  unfold maxLen at hm
  clear hs hf hst
  cases hv : sv k n l
  · have HR := Lib.hid (show shiftR k n l by_ = ((0, 0, []), 1) by unfold shiftR; rw [if_pos hv])
    rw [hv] at HV
    clear hv
    go_enter Tryz.func36, Tryz.ntmps36
    go_wp2_with fail
    refine HV.out.mono ?_
    rintro e w1 ⟨rfl, hb⟩
    have H1 := Lib.hid (HST.out.later hb (by simp))
    clear hb
    obtain ⟨⟨c0, c1, c2⟩, ⟨p0, p1, p2⟩, ⟨q0, q1, q2⟩⟩ := (H1.out).facts
    go_wp2_with fail
    obtain ⟨⟨e0, e1, e2⟩, hbb⟩ := (H1.out).fin (.int .i64 0) (.int .i64 0) (.slice none 0 0)
    refine bodyPost_ret (v := .tuple #[.agg #[.int .i64 0, .int .i64 0, .slice none 0 0], .int .i64 1]) (by simp [results, Tryz.results36, go_sem, e0, e1, e2]) rfl ?_
    rw [HR.out]
    exact SigPost.zero 1 hbb
  have HR1 : Hid (shiftR k n l by_ = if by_ < -1099511627776 ∨ 1099511627776 < by_ ∨ shBad l by_ = true then ((0, 0, []), 2) else if 0 ≤ by_ ∨ k = 3 then madeR k n (eachL (shG by_) l) else madeR k n (shTail k n l by_)) := Lib.hid (by unfold shiftR; rw [if_neg (by rw [hv]; simp)])
  have hll := (sv_iff.1 hv).2.1
  have HSV := Lib.hid hv
  rw [hv] at HV
  clear hv
  by_cases hr : by_ < -1099511627776 ∨ 1099511627776 < by_
  · have HR := Lib.hid (show shiftR k n l by_ = ((0, 0, []), 2) by rw [HR1.out, if_pos (by rcases hr with h | h; exact .inl h; exact .inr (.inl h))])
    have hr3 : by_ < -1099511627776 ∨ (-1099511627776 ≤ by_ ∧ 1099511627776 < by_) := by omega
    clear hr HR1
    rcases hr3 with h1 | ⟨h1, h2⟩
    all_goals
      go_enter Tryz.func36, Tryz.ntmps36
      go_wp2_with fail
      refine HV.out.mono ?_
      rintro e w1 ⟨rfl, hb⟩
      have H1 := Lib.hid (HST.out.later hb (by simp))
      clear hb
      obtain ⟨⟨c0, c1, c2⟩, ⟨p0, p1, p2⟩, ⟨q0, q1, q2⟩⟩ := (H1.out).facts
      go_wp2_with fail
      obtain ⟨⟨e0, e1, e2⟩, hbb⟩ := (H1.out).fin (.int .i64 0) (.int .i64 0) (.slice none 0 0)
      refine bodyPost_ret (v := .tuple #[.agg #[.int .i64 0, .int .i64 0, .slice none 0 0], .int .i64 2]) (by simp [results, Tryz.results36, go_sem, e0, e1, e2]) rfl ?_
      rw [HR.out]
      exact SigPost.zero 2 hbb
  obtain ⟨h0, h1⟩ : -1099511627776 ≤ by_ ∧ by_ ≤ 1099511627776 := by omega
  clear hr
  have HPL := Lib.hid (shift_list HSV.out by_)
  obtain ⟨i0, hi, iz0, iz1, iz2⟩ := info_parts (P := Tryz.prog) change_info
  go_enter Tryz.func36, Tryz.ntmps36
  go_wp2_with fail
  refine HV.out.mono ?_
  rintro e w2 ⟨rfl, hb⟩
  have H2 := Lib.hid (HST.out.later hb (by simp))
  have hz2 := H2.out.z
  have HS2 := Lib.hid (HS.out.below H2.out.b)
  have HO0 := Lib.hid (World.ownsRow_made w2 #[] 0 (Nat.le_refl _) (Nat.zero_le _) rfl : (w2.alloc (.cells #[] 36)).ownsRow w2.heap.size 36 2 (.slice (some ⟨w2.heap.size, 0, none⟩) 0 0) 0 [])
  have HB0 := Lib.hid ((Below.refl w2.heap.size w2).alloc (Nat.le_refl _) (.cells #[] 36))
  have H3 := Lib.hid (H2.out.later HB0.out hz2)
  clear hb HST
  go_upto_region 6 with fail
  generalize w2.alloc (.cells #[] 36) = w3 at HO0 HB0 H3 ⊢
  obtain ⟨⟨c0, c1, c2⟩, ⟨p0, p1, p2⟩, ⟨q0, q1, q2⟩⟩ := (H3.out).facts
  go_cut [27] (fun v wc => v = .bool (shS k by_) ∧ wc = w3)
  case first =>
    by_cases g1 : by_ < 0
    · by_cases g2 : k = 3
      · have HT := Lib.hid (show shS k by_ = false by unfold shS; simp [g2])
        have g3 : (k != 3) = false := by rw [bne_eq_false_iff_eq]; exact g2
        clear g2
        go_wp2_with fail
        go_meet
        case rel => exact ⟨by rw [HT.out], rfl⟩
      · have HT := Lib.hid (show shS k by_ = true by unfold shS; simp [g1, g2])
        have g3 : (k != 3) = true := by rw [bne_iff_ne]; exact g2
        clear g2
        go_wp2_with fail
        go_meet
        case rel => exact ⟨by rw [HT.out], rfl⟩
    · have HT := Lib.hid (show shS k by_ = false by unfold shS; simp [g1])
      have g2 : 0 ≤ by_ := by omega
      clear g1
      go_wp2_with fail
      go_meet
      case rel => exact ⟨by rw [HT.out], rfl⟩
  case rest =>
    obtain ⟨rfl, rfl⟩ := hcut
    go_upto_if 27 with fail
    go_cut [6] (fun s10 wc => ∃ (a1 : Option Addr) (c1 : Nat) (r : List Ch), r = (if shS k by_ = true then [(0, val (vi k n) l (-by_))] else []) ∧ s10 = .slice a1 r.length c1 ∧ wc.ownsRow w2.heap.size 36 2 s10 r.length (chs r) ∧ Below w2.heap.size w2 wc)
    case first =>
      cases hb : shS k by_
      · have HT := Lib.hid hb
        clear hb
        go_wp2_with fail
        go_meet
        case rel => exact ⟨_, _, [], by rw [if_neg (by rw [HT.out]; simp)], rfl, HO0.out, HB0.out⟩
      · have HT := Lib.hid hb
        clear hb
        go_wp2_with fail
        refine (ref_Value k n _ l (-by_) _ (HS2.out.below HB0.out)).mono ?_
        rintro e w6 ⟨rfl, hb6⟩
        obtain ⟨x, hx⟩ : ∃ x, x = val (vi k n) l (-by_) := ⟨_, rfl⟩
        rw [← hx]
        have HX := Lib.hid hx
        clear hx
        have HO6 := Lib.hid ((HO0.out).kept (row := none) (w' := w6) ⟨hb6.os, hb6.tape, hb6.output, hb6.size, fun i hi _ => hb6.block i hi⟩ (.inr (by simp [Value.ownBlock])))
        have HB6 := Lib.hid (HB0.out.trans (hb6.mono HB0.out.size))
        clear hb6 c0 c1 c2 p0 p1 p2 q0 q1 q2
        go_wp2_with (at_builtin; refine wpList_append_own _ rfl _ _ 22 rfl w2.heap.size 36 i0 (.agg #[.int .i64 0, .string ⟨#[]⟩]) 2 24 Tryz.underlying22 hi iz0 iz1 iz2 rfl (by decide) _ _ _ rfl (World.ownsRow.alloc (by exact HO6.out) _) ⟨w6.heap.size, 0, none⟩ 1 1 [.int .i64 0, .string x] rfl rfl (World.news_of_block (cs := #[.int .i64 0, .string x]) (t := 36) (fr := (0, 0)) (by exact heap_alloc_new w6 _)) (by simp [Value.oneCell']) (by unfold maxLen; omega) (by omega) (by have := HB6.out.size; simp; omega) ?_)
        intro v7 w7 ho7 hg7 _
        obtain ⟨a7, c7, rfl, -, -⟩ := (SlR.of_own ho7).shape
        have hb7 : Below w2.heap.size w2 w7 := (HB6.out.alloc HB6.out.size _).grown hg7 (by have := HB6.out.size; simp; omega) (fun q hq => (HO6.out.lt q hq).1)
        have HO7 := Lib.hid ho7
        have HB7 := Lib.hid hb7
        clear ho7 hg7 hb7
        go_wp2_with fail
        go_meet
        case rel => exact ⟨a7, c7, [(0, x)], by rw [if_pos HT.out, HX.out], rfl, by have := HO7.out; simpa [chs, encC] using this, HB7.out⟩
    case rest =>
      obtain ⟨a6, c6, r, hr, rfl, ho7, hb7⟩ := hcut
      have hl7 : r.length ≤ 1 := by rw [hr]; split <;> simp
      have HRR := Lib.hid hr
      have HO7 := Lib.hid ho7
      have HB7 := Lib.hid hb7
      clear hr ho7 hb7 HO0 HB0 H3 c0 c1 c2 p0 p1 p2 q0 q1 q2
      go_wp2_with fail
      go_loopw [6, 7] (fun o_ i wr => ∃ (j : Nat) (out : List Ch), j ≤ l.length ∧ i = .int .i64 j ∧ out.length ≤ j + 1 ∧ (out = (if shS k by_ = true then [(0, val (vi k n) l (-by_))] else []) ++ shF k by_ (l.take j) ∧ ∀ c ∈ l.take j, c.1 + by_ ≤ 1099511627776) ∧ wr.ownsRow w2.heap.size 36 2 o_ out.length (chs out) ∧ Below w2.heap.size w2 wr)
        (fun _ i _ => l.length - (intOf i).toNat)
      case atStart => exact ⟨0, r, Nat.zero_le _, rfl, by omega, ⟨by rw [HRR.out]; simp [shF], fun c hc => by simp at hc⟩, HO7.out, HB7.out⟩
      case round =>
        obtain ⟨j, out, hj, rfl, hol, ⟨hn, hlb⟩, ho, hb⟩ := hrel
        obtain ⟨ao, co, rfl, hco, hmo⟩ := (SlR.of_own ho).shape
        have H4 := Lib.hid (H2.out.later hb hz2)
        have HO := Lib.hid ho
        have HB := Lib.hid hb
        have HN := Lib.hid hn
        have HLB := Lib.hid hlb
        clear ho hb hn hlb HO7 HB7 HRR
        obtain ⟨⟨c0, c1, c2⟩, ⟨p0, p1, p2⟩, ⟨q0, q1, q2⟩⟩ := (H4.out).facts
        by_cases hlt : j < l.length
        · obtain ⟨b, o, rfl, d0, d1⟩ := (HS2.out.below HB.out).ch hlt
          have hmem := sv_mem HSV.out l[j] (List.getElem_mem hlt)
          have HN2 := Lib.hid (show shF k by_ (l.take (j + 1)) = shF k by_ (l.take j) ++ (if shK k by_ (l[j].1 + by_) = true then [(l[j].1 + by_, l[j].2)] else []) from shF_snoc k by_ l j hlt)
          have HBAD := Lib.hid (show 1099511627776 < l[j].1 + by_ → shiftR k n l by_ = ((0, 0, []), 2) from fun h => by
            have hbad : shBad l by_ = true := by
              cases hb : shBad l by_
              · have := shBad_mem (sv_nonDec HSV.out) hb l[j] (List.getElem_mem hlt)
                omega
              · rfl
            rw [HR1.out, if_pos (.inr (.inr hbad))])
          have HLL := Lib.hid (show l[j].1 + by_ ≤ 1099511627776 → ∀ c ∈ l.take (j + 1), c.1 + by_ ≤ 1099511627776 from fun h c hc => by
            rw [List.take_succ_eq_append_getElem hlt] at hc
            rcases List.mem_append.1 hc with hc | hc
            · exact HLB.out c hc
            · rw [List.mem_singleton.1 hc]; exact h)
          generalize l[j] = c at d0 d1 hmem HN2 HBAD HLL
          obtain ⟨t', s'⟩ := c
          simp only at d0 d1 hmem HN2 HBAD HLL
          obtain ⟨m0, m1, -⟩ := hmem
          by_cases hbig : 1099511627776 < t' + by_
          · have HR := Lib.hid (HBAD.out hbig)
            go_wp2_with fail
            obtain ⟨⟨e0, e1, e2⟩, hbb⟩ := (H4.out).fin (.int .i64 0) (.int .i64 0) (.slice none 0 0)
            refine bodyPost_ret (v := .tuple #[.agg #[.int .i64 0, .int .i64 0, .slice none 0 0], .int .i64 2]) (by simp [results, Tryz.results36, go_sem, e0, e1, e2]) rfl ?_
            rw [HR.out]
            exact SigPost.zero 2 hbb
          have hbig' : t' + by_ ≤ 1099511627776 := by omega
          have HLL := Lib.hid (HLL.out hbig')
          clear hbig HBAD
          by_cases g1 : 0 < t' + by_
          · have HK := Lib.hid (show shK k by_ (t' + by_) = true by unfold shK; simp [g1])
            have HN4 := Lib.hid (show out ++ [(t' + by_, s')] = (if shS k by_ = true then [(0, val (vi k n) l (-by_))] else []) ++ shF k by_ (l.take (j + 1)) by rw [HN2.out, if_pos HK.out, ← List.append_assoc, ← HN.out])
            have HL4 := Lib.hid (And.intro HN4.out HLL.out)
            go_wp2_with (at_builtin; refine wpList_append_own _ rfl _ _ 22 rfl w2.heap.size 36 i0 (.agg #[.int .i64 0, .string ⟨#[]⟩]) 2 24 Tryz.underlying22 hi iz0 iz1 iz2 rfl (by decide) _ _ _ rfl (World.ownsRow.alloc (by exact HO.out) _) ⟨wr.heap.size, 0, none⟩ 1 1 [.int .i64 (t' + by_), .string s'] rfl rfl (World.news_of_block (cs := #[.int .i64 (t' + by_), .string s']) (t := 36) (fr := (0, 0)) (by exact heap_alloc_new wr _)) (by simp [Value.oneCell']) (by unfold maxLen; omega) (by omega) (by have := HB.out.size; simp; omega) ?_)
            intro v7 w7 ho7 hg7 _
            obtain ⟨a7, c7, rfl, -, -⟩ := (SlR.of_own ho7).shape
            have hb7 : Below w2.heap.size w2 w7 := (HB.out.alloc HB.out.size _).grown hg7 (by have := HB.out.size; simp; omega) (fun q hq => (HO.out.lt q hq).1)
            have HO7 := Lib.hid ho7
            have HB7 := Lib.hid hb7
            clear ho7 hg7 hb7
            go_wp2_with fail
            go_roundw
            case rel => exact ⟨j + 1, out ++ [(t' + by_, s')], by omega, by go_num, by simp; omega, HL4.out, by have := HO7.out; rw [chs_append]; simpa [chs, encC] using this, HB7.out⟩
            case measure => simp [intOf]; omega
          have g1' : t' + by_ ≤ 0 := by omega
          clear g1
          by_cases g2 : t' + by_ = 0
          · have g2b : ((t' + by_ : Int) == 0) = true := by rw [beq_iff_eq]; exact g2
            by_cases g3 : 0 ≤ by_
            · have HK := Lib.hid (show shK k by_ (t' + by_) = true by unfold shK; simp [g2, g3])
              clear g2
              have HN4 := Lib.hid (show out ++ [(t' + by_, s')] = (if shS k by_ = true then [(0, val (vi k n) l (-by_))] else []) ++ shF k by_ (l.take (j + 1)) by rw [HN2.out, if_pos HK.out, ← List.append_assoc, ← HN.out])
              have HL4 := Lib.hid (And.intro HN4.out HLL.out)
              go_wp2_with (at_builtin; refine wpList_append_own _ rfl _ _ 22 rfl w2.heap.size 36 i0 (.agg #[.int .i64 0, .string ⟨#[]⟩]) 2 24 Tryz.underlying22 hi iz0 iz1 iz2 rfl (by decide) _ _ _ rfl (World.ownsRow.alloc (by exact HO.out) _) ⟨wr.heap.size, 0, none⟩ 1 1 [.int .i64 (t' + by_), .string s'] rfl rfl (World.news_of_block (cs := #[.int .i64 (t' + by_), .string s']) (t := 36) (fr := (0, 0)) (by exact heap_alloc_new wr _)) (by simp [Value.oneCell']) (by unfold maxLen; omega) (by omega) (by have := HB.out.size; simp; omega) ?_)
              intro v7 w7 ho7 hg7 _
              obtain ⟨a7, c7, rfl, -, -⟩ := (SlR.of_own ho7).shape
              have hb7 : Below w2.heap.size w2 w7 := (HB.out.alloc HB.out.size _).grown hg7 (by have := HB.out.size; simp; omega) (fun q hq => (HO.out.lt q hq).1)
              have HO7 := Lib.hid ho7
              have HB7 := Lib.hid hb7
              clear ho7 hg7 hb7
              go_wp2_with fail
              go_roundw
              case rel => exact ⟨j + 1, out ++ [(t' + by_, s')], by omega, by go_num, by simp; omega, HL4.out, by have := HO7.out; rw [chs_append]; simpa [chs, encC] using this, HB7.out⟩
              case measure => simp [intOf]; omega
            have g3' : by_ < 0 := by omega
            clear g3
            by_cases g4 : k = 3
            · have HK := Lib.hid (show shK k by_ (t' + by_) = true by unfold shK; simp [g2, g4])
              have g4b : (k == 3) = true := by rw [beq_iff_eq]; exact g4
              clear g2 g4
              have HN4 := Lib.hid (show out ++ [(t' + by_, s')] = (if shS k by_ = true then [(0, val (vi k n) l (-by_))] else []) ++ shF k by_ (l.take (j + 1)) by rw [HN2.out, if_pos HK.out, ← List.append_assoc, ← HN.out])
              have HL4 := Lib.hid (And.intro HN4.out HLL.out)
              go_wp2_with (at_builtin; refine wpList_append_own _ rfl _ _ 22 rfl w2.heap.size 36 i0 (.agg #[.int .i64 0, .string ⟨#[]⟩]) 2 24 Tryz.underlying22 hi iz0 iz1 iz2 rfl (by decide) _ _ _ rfl (World.ownsRow.alloc (by exact HO.out) _) ⟨wr.heap.size, 0, none⟩ 1 1 [.int .i64 (t' + by_), .string s'] rfl rfl (World.news_of_block (cs := #[.int .i64 (t' + by_), .string s']) (t := 36) (fr := (0, 0)) (by exact heap_alloc_new wr _)) (by simp [Value.oneCell']) (by unfold maxLen; omega) (by omega) (by have := HB.out.size; simp; omega) ?_)
              intro v7 w7 ho7 hg7 _
              obtain ⟨a7, c7, rfl, -, -⟩ := (SlR.of_own ho7).shape
              have hb7 : Below w2.heap.size w2 w7 := (HB.out.alloc HB.out.size _).grown hg7 (by have := HB.out.size; simp; omega) (fun q hq => (HO.out.lt q hq).1)
              have HO7 := Lib.hid ho7
              have HB7 := Lib.hid hb7
              clear ho7 hg7 hb7
              go_wp2_with fail
              go_roundw
              case rel => exact ⟨j + 1, out ++ [(t' + by_, s')], by omega, by go_num, by simp; omega, HL4.out, by have := HO7.out; rw [chs_append]; simpa [chs, encC] using this, HB7.out⟩
              case measure => simp [intOf]; omega
            · have HK := Lib.hid (show shK k by_ (t' + by_) = false by unfold shK; simp [g2, g4]; omega)
              have g4b : (k == 3) = false := by rw [beq_eq_false_iff_ne]; exact g4
              clear g2 g4
              have HN4 := Lib.hid (show out = (if shS k by_ = true then [(0, val (vi k n) l (-by_))] else []) ++ shF k by_ (l.take (j + 1)) from (show (if shS k by_ = true then [(0, val (vi k n) l (-by_))] else []) ++ shF k by_ (l.take (j + 1)) = out by rw [HN2.out, if_neg (show ¬ shK k by_ (t' + by_) = true by rw [HK.out]; simp), List.append_nil, ← HN.out]).symm)
              go_wp2_with fail
              go_roundw
              case rel => exact ⟨j + 1, out, by omega, by go_num, by omega, ⟨HN4.out, HLL.out⟩, HO.out, HB.out⟩
              case measure => simp [intOf]; omega
          · have g2b : ((t' + by_ : Int) == 0) = false := by rw [beq_eq_false_iff_ne]; exact g2
            have HK := Lib.hid (show shK k by_ (t' + by_) = false by unfold shK; simp [g2]; omega)
            clear g2
            have HN4 := Lib.hid (show out = (if shS k by_ = true then [(0, val (vi k n) l (-by_))] else []) ++ shF k by_ (l.take (j + 1)) from (show (if shS k by_ = true then [(0, val (vi k n) l (-by_))] else []) ++ shF k by_ (l.take (j + 1)) = out by rw [HN2.out, if_neg (show ¬ shK k by_ (t' + by_) = true by rw [HK.out]; simp), List.append_nil, ← HN.out]).symm)
            go_wp2_with fail
            go_roundw
            case rel => exact ⟨j + 1, out, by omega, by go_num, by omega, ⟨HN4.out, HLL.out⟩, HO.out, HB.out⟩
            case measure => simp [intOf]; omega
        · obtain rfl : j = l.length := by omega
          have HE := Lib.hid (show madeR k n out = shiftR k n l by_ by
            have e1 := HN.out
            have e2 := HLB.out
            rw [List.take_length] at e1 e2
            have e3 : ¬ (by_ < -1099511627776 ∨ 1099511627776 < by_ ∨ shBad l by_ = true) := by rw [shBad_of e2]; simp; omega
            rw [e1, HPL.out, HR1.out, if_neg e3])
          go_wp2_with fail
          refine (ref_build k n _ out _ (SlR.of_own HO.out) (by omega)).mono ?_
          rintro e w10 ⟨v10, rfl, ho10, hb10⟩
          obtain ⟨a10, c10, rfl, -, -⟩ := (SlR.of_own ho10).shape
          have H10 := Lib.hid (H2.out.later (HB.out.trans (hb10.mono HB.out.size)) hz2)
          have HO10 := Lib.hid ho10
          have hsz := HB.out.size
          clear ho10 hb10 c0 c1 c2 p0 p1 p2 q0 q1 q2
          obtain ⟨⟨c0, c1, c2⟩, ⟨p0, p1, p2⟩, ⟨q0, q1, q2⟩⟩ := (H10.out).facts
          go_wp2_with fail
          obtain ⟨⟨g0, g1, g2⟩, hbb⟩ := H10.out.fin (.int .i64 (madeR k n out).1.1) (.int .i64 (madeR k n out).1.2.1) (.slice a10 (madeR k n out).1.2.2.length c10)
          refine bodyPost_ret (v := .tuple #[.agg #[.int .i64 (madeR k n out).1.1, .int .i64 (madeR k n out).1.2.1, .slice a10 (madeR k n out).1.2.2.length c10], .int .i64 (madeR k n out).2]) (by simp [results, Tryz.results36, go_sem, g0, g1, g2]) rfl ?_
          rw [← HE.out]
          exact ⟨_, rfl, ownsRow_base (ownsRow_set3 HO10.out (by omega) _ _ _) (by omega), hbb⟩
end Go.Proofs.YtlbcfmhpkcpmaaaGreatDoor
