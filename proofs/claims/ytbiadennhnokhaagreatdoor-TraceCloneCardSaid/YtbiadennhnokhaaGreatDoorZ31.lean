import Derived.Test.YtbiadennhnokhaaGreatDoorZ30
import Derived.Test.YtbiadennhnokhaaGreatDoorZ12
import Derived.Test.YtbiadennhnokhaaGreatDoorZ20
/- hierarchy.Order. -/
namespace Go.Proofs.YtbiadennhnokhaaGreatDoor
open Go.RowKit Go.WideMaps Go.Shelf
attribute [local go_sem] Oper.semAt_some
set_option linter.unusedSimpArgs false

theorem own_succ {w : World} {B e size n : Nat} {v : Value} {xs : List Value} (h : w.ownsRow B e size v (n + 1) xs) : ∃ g cap, v = .slice (some ⟨g, 0, none⟩) (n + 1) cap := by
  rcases h.2 with ⟨-, h0⟩ | ⟨g, cap, cur, e0, -⟩
  · omega
  · exact ⟨g, cap, e0⟩
theorem vrs_sc {D R : List Vr} (v : Vr) (n : Int) : (vrs (D ++ v :: R)).set (D.length * 7 + 2) (.int .i64 n) = vrs (D ++ { v with sc := n } :: R) := by
  have hl : (vrs D).length = D.length * 7 := by rw [vrs_len, Nat.mul_comm]
  rw [vrs_app, vrs_app, vrs_cons, vrs_cons, ← hl]
  simp only [vrC, List.cons_append, List.nil_append]
  rw [List.set_append_right _ _ (by omega), Nat.add_sub_cancel_left]
  simp only [List.set_cons_succ, List.set_cons_zero]
theorem SO.putSc {base g n c : Nat} {w : World} {X Z : List Vr} {y : Vr} (h : SO base g n c w (X ++ y :: Z)) (q : Int) : SO base g n c (w.setCell ⟨g, X.length * 7 + 2, none⟩ (.int .i64 q)) (X ++ { y with sc := q } :: Z) := by
  have h1 := own_set h (X.length * 7 + 2) (.int .i64 q)
  rwa [vrs_sc] at h1
def OrdPost (r : List Sc × List Vr × List Int × Int) (w : World) (e : Ending) (w' : World) : Prop :=
  ∃ v1 v2 v3, e = .returned (.tuple #[v1, v2, v3, .int .i64 r.2.2.2]) ∧ w'.ownsRow w.heap.size 55 3 v1 r.1.length (scs r.1) ∧ w'.ownsRow w.heap.size 42 7 v2 r.2.1.length (vrs r.2.1) ∧
    w'.ownsRow w.heap.size 3 1 v3 r.2.2.1.length (ints r.2.2.1) ∧ Below w.heap.size w w'
theorem ord_err (v v2 : Value) (S : List Sc) (V : List Vr) (w : World) (hs : SlR w v S.length (scs S)) (hv : SlR w v2 V.length (vrs V)) (hl : S.length ≤ 1000 ∧ V.length ≤ 1000) (hn : (∀ s ∈ S, s.1.length ≤ 100000) ∧ ∀ x ∈ V, x.nm.length ≤ 100000) (he : checkF S V ≠ 0) :
    Calls Tryz.prog 121 #[v, v2] w (OrdPost (orderF S V) w) := by
  obtain ⟨a, cap, rfl, -, -⟩ := hs.shape
  obtain ⟨a2, cap2, rfl, -, -⟩ := hv.shape
  have hal : Below w.heap.size w (w.alloc (.cells #[.slice a S.length cap] 22)) := (Below.refl _ _).alloc (Nat.le_refl _) _
  have HC := Lib.hid (hi_check _ _ S V _ (hs.below hal) (hv.below hal) hl hn)
  have HQ := Lib.hid (show orderF S V = ([], [], [], checkF S V) by unfold orderF; rw [if_pos he])
  generalize orderF S V = O at *
  generalize checkF S V = q at *
  have hq : (q == 0) = false := by simpa using he
  have hq2 : (q != 0) = true := by simpa using he
  clear hs hv he
  go_enter Tryz.func121, Tryz.ntmps121
  go_wp2_with fail
  refine HC.out.mono ?_
  rintro e w1 ⟨rfl, hb⟩
  have HB := Lib.hid (ext_alloc hb)
  clear hb HC
  go_wp2_with fail
  refine bodyPost_ret (v := .tuple #[.slice none 0 0, .slice none 0 0, .slice none 0 0, .int .i64 q]) (by simp [results, Tryz.results121, go_sem]) rfl ?_
  rw [HQ.out]
  exact ⟨_, _, _, rfl, World.ownsRow_nil _ _ _ _, World.ownsRow_nil _ _ _ _, World.ownsRow_nil _ _ _ _, HB.out⟩
set_option maxRecDepth 100000 in
set_option maxHeartbeats 3200000 in
theorem ord_ok (v v2 : Value) (S : List Sc) (V : List Vr) (w : World) (hs : SlR w v S.length (scs S)) (hv : SlR w v2 V.length (vrs V)) (hl : S.length ≤ 1000 ∧ V.length ≤ 1000) (hn : (∀ s ∈ S, s.1.length ≤ 100000) ∧ ∀ x ∈ V, x.nm.length ≤ 100000)
    (hsg : ∀ x ∈ V, (Lit.int .i64 x.sg).wf = true) (he : checkF S V = 0) : Calls Tryz.prog 121 #[v, v2] w (OrdPost (orderF S V) w) := by
  obtain ⟨i0, hi0, iz0, iz1, iz2⟩ := info_parts (P := Tryz.prog) sc_info
  obtain ⟨a, cap, rfl, -, -⟩ := hs.shape
  obtain ⟨a2, cap2, rfl, -, -⟩ := hv.shape
  have hal : Below w.heap.size w (w.alloc (.cells #[.slice a S.length cap] 22)) := (Below.refl _ _).alloc (Nat.le_refl _) _
  have HC := Lib.hid (hi_check _ _ S V _ (hs.below hal) (hv.below hal) hl hn)
  have HQ := Lib.hid (show orderF S V = (scF S, (vrF S V).1, (vrF S V).2, 0) by unfold orderF; rw [if_neg (by simp [he])])
  have HK := Lib.hid (chk_iff.1 he)
  rw [he] at HC
  generalize orderF S V = O at *
  have HS := Lib.hid hs
  have HV := Lib.hid hv
  have HSG := Lib.hid hsg
  have HL := Lib.hid hl
  clear hs hv he hsg hn hl
  have hmm := @run_makeMap Tryz.prog
  have h1 := heap_alloc_new w (.cells #[.slice a S.length cap] 22)
  refine (callsIn_wide (n := 6)).1 ?_
  refine callsIn_of_wp_marks Tryz.func121 rfl trivial ?_ rfl
  refine wpIn_wide.2 ?_
  simp only [Tryz.ntmps121, List.size_toArray, List.length_cons, List.length_nil, Nat.reduceAdd, Nat.reduceSub, Array.replicate_succ, Array.replicate_zero, List.push_toArray, List.append_toArray, List.nil_append, List.cons_append]
  have H1 := Lib.hid h1
  have HAL := Lib.hid hal
  clear h1 hal
  go_wp2_with fail
  refine HC.out.mono ?_
  rintro e w1 ⟨rfl, hb⟩
  have HB1 := Lib.hid hb
  have hz1 : w.heap.size < w1.heap.size := by have := hb.size; simp at this; omega
  obtain ⟨c2, -⟩ := box1 hb
  have hbs1 : w1.heap[w.heap.size]? = some (.cells #[.slice a S.length cap] 22 (0, 0)) := by
    rw [hb.block _ (by simp)]; exact H1.out
  have ba1 : Below w1.heap.size w1 (w1.alloc (.cells #[.slice none 0 0] 22)) := (Below.refl _ _).alloc (Nat.le_refl _) _
  have ba2 : Below w1.heap.size w1 ((w1.alloc (.cells #[.slice none 0 0] 22)).alloc (.map #[] 0)) := ba1.alloc (by simp) _
  have hbo2 : ((w1.alloc (.cells #[.slice none 0 0] 22)).alloc (.map #[] 0)).heap[w1.heap.size]? = some (.cells #[.slice none 0 0] 22 (0, 0)) :=
    (Same0.of_below ((Below.refl (w1.alloc (.cells #[.slice none 0 0] 22)).heap.size (w1.alloc (.cells #[.slice none 0 0] 22))).alloc (Nat.le_refl _) (.map #[] 0))).cells _ _ _ _ (heap_alloc_new w1 (.cells #[.slice none 0 0] 22))
  have HBF := Lib.hid (fun (w2 : World) (hg : ((w1.alloc (.cells #[.slice none 0 0] 22)).alloc (.map #[] 0)).grownBy w2 (some (w1.heap.size + 1))) =>
    (show w2.heap[w.heap.size]? = some (.cells #[.slice a S.length cap] 22 (0, 0)) ∧ w2.heap[w1.heap.size]? = some (.cells #[.slice none 0 0] 22 (0, 0)) ∧ w1.heap.size + 1 < w2.heap.size ∧ Below w.heap.size w w2 from
      ⟨(hg.block _ (by simp; omega) (by intro q; injection q with q; omega)).trans ((Same0.of_below ba2).cells _ _ _ _ hbs1), (hg.block _ (by simp; omega) (by intro q; injection q with q; omega)).trans hbo2, by have := hg.size; simp at this; omega,
        ((ext_alloc HB1.out).trans (ba2.mono (by omega))).grown hg (by simp; omega) (fun j hj => by injection hj with hj; omega)⟩))
  clear hb HC hbs1 ba1 ba2 hbo2
  have HM0 := Lib.hid (show KMap (intEnc (P := Tryz.prog) (K := 3) Tryz.underlying3) ((w1.alloc (.cells #[.slice none 0 0] 22)).alloc (.map #[] 0)) (w1.heap.size + 1) 0 (fun _ => none) by
    have := KMap.made (intEnc (P := Tryz.prog) (K := 3) Tryz.underlying3) (w1.alloc (.cells #[.slice none 0 0] 22))
    rwa [World.size_alloc] at this)
  go_wp2_with (refine wpList_insK _ rfl _ _ _ 93 rfl 3 Tryz.underlying93 (w1.heap.size + 1) 0 _ rfl HM0.out (by decide) (-1) (.int .i64 (-1)) rfl rfl (wf_of (n := -1) (by decide) (by decide)) ?_; intro w2 hm2 hg2; have HM2 := Lib.hid (hm2.ext (nowF_zero (preS S))); obtain ⟨g1, g2, g3, g4⟩ := HBF.out w2 hg2; have HG2 := Lib.hid (And.intro g1 (And.intro g2 g4)); have c2' := (one_free g1).1; have hz2 : w.heap.size < w2.heap.size := (by omega); clear hm2 hg2 c2 g1 g2 g4)
  clear hmm
  refine (hi_preorder _ _ _ _ _).mono ?_
  rintro e w3 ⟨rfl, rfl⟩
  go_wp2_with fail
  obtain ⟨v, hv⟩ : ∃ v, Value.slice a S.length cap = v := ⟨_, rfl⟩
  rw [hv] at HS HG2 c2' ⊢
  obtain ⟨b9, hb9⟩ : ∃ b9, w1.heap.size = b9 := ⟨_, rfl⟩
  rw [hb9] at HG2 HM2 g3 hz1 ⊢
  have hq := heap_alloc_new w2 (.cells #[.map (some (b9 + 1))] 93)
  have k1 : Below w2.heap.size w2 (w2.alloc (.cells #[.map (some (b9 + 1))] 93)) := (Below.refl _ _).alloc (Nat.le_refl _) _
  have e1 : (w2.alloc (.cells #[.map (some (b9 + 1))] 93)).heap.size = w2.heap.size + 1 := by simp
  obtain ⟨W0, hW0⟩ : ∃ X, ((w2.alloc (.cells #[.map (some (b9 + 1))] 93)).alloc (.cells #[v] 22)).alloc (.cells #[.int .i64 (-1)] 3) = X := ⟨_, rfl⟩
  have hs0 : W0.heap.size = w2.heap.size + 3 := by rw [← hW0]; simp
  rw [hW0]
  generalize w2.alloc (.cells #[.map (some (b9 + 1))] 93) = x1 at *
  have h2 := heap_alloc_new x1 (.cells #[v] 22)
  have k2 : Below x1.heap.size x1 (x1.alloc (.cells #[v] 22)) := (Below.refl _ _).alloc (Nat.le_refl _) _
  have e2 : (x1.alloc (.cells #[v] 22)).heap.size = w2.heap.size + 2 := by simp [e1]
  generalize x1.alloc (.cells #[v] 22) = x2 at *
  have h3 := heap_alloc_new x2 (.cells #[.int .i64 (-1)] 3)
  have k3 : Below x2.heap.size x2 (x2.alloc (.cells #[.int .i64 (-1)] 3)) := (Below.refl _ _).alloc (Nat.le_refl _) _
  rw [hW0] at h3 k3
  rw [e1] at h2
  rw [e2] at h3
  have bb : Below w2.heap.size w2 W0 := ext_trans (ext_trans k1 k2) k3
  have hI0 : OrI w v b9 w2.heap.size S 0 0 (.slice none 0 0) W0 :=
    ⟨(Same0.of_below bb).cells _ _ _ _ HG2.out.1, (Same0.of_below bb).cells _ _ _ _ HG2.out.2.1, (Same0.of_below k3).cells _ _ _ _ ((Same0.of_below k2).cells _ _ _ _ hq), HM2.out.below bb HM2.out.lt, World.ownsRow_nil _ _ _ _, HG2.out.2.2.trans (bb.mono HG2.out.2.2.size), hz1, g3⟩
  have q2 := (Same0.of_below k3).cells _ _ _ _ h2
  have HF := Lib.hid (decl_fst HK.out.d)
  have hSl : S.length ≤ 32 := HK.out.n
  obtain ⟨bq, hbq⟩ : ∃ bq, w2.heap.size = bq := ⟨_, rfl⟩
  rw [hbq] at hI0 hs0 h3 q2 g3 ⊢
  have HPL := Lib.hid (preS_len HF.out)
  clear k1 k2 k3 e1 e2 hW0 hq h2 HM0 HBF H1 HAL HB1 HM2 hz2 c2' x1 x2
  refine (wpIn_wide (n := 6)).1 ?_
  refine rangeN rfl (by decide) (gf := 218) (lb := #[.pointer (some ⟨bq + 1, 0, none⟩), .pointer (some ⟨bq + 2, 0, none⟩)]) rfl trivial (enters_of Tryz.func218 (by kernel_rfl) rfl)
    (encs := ordE (preS S)) (Kp := KpO w.heap.size) (N := (preS S).length) (T := 5)
    (fun l J W hW hJ hY h0 => ?iter)
    KpO.trans (fun _ _ h => KpO.same0 h) (fun _ => rfl)
    (fun k W => ∃ vo, OrI w v b9 bq S k k vo W) (fun k W V ⟨vo, h⟩ ht => ⟨vo, h.turn (by omega) ht⟩) ⟨_, hI0⟩ ?round ?done
  case iter =>
    exact pre1_in (6 - 1) (by decide) l (bq + 1) (bq + 2) S v w W J HF.out (by omega) HS.out (Same0.trans (Same0.of_below (HG2.out.2.2.trans (bb.mono HG2.out.2.2.size))) (Same0.of_below hW)) hY ((Same0.of_below hW).cells _ _ _ _ q2) ((Same0.of_below hW).cells _ _ _ _ h3) h0
  case done =>
    rintro D W hD ⟨vo, h⟩ hDd
    have HI := Lib.hid h
    have HD := Lib.hid (And.intro hD hDd)
    have hln : (scF S).length = (preS S).length := by rw [HPL.out, scF_len HF.out]
    have HOU := Lib.hid (show W.ownsRow w.heap.size 55 3 vo (scF S).length (scs (scF S)) by
      have := h.o
      rw [← hln, List.take_of_length_le (Nat.le_refl _)] at this
      exact this)
    have hVl : V.length ≤ 128 := HK.out.m
    have HVV := Lib.hid (clone_vr _ V W (HV.out.below h.b) (by omega))
    obtain ⟨co, -⟩ := one_free h.bo
    obtain ⟨cn, -⟩ := one_free h.bn
    clear hD hDd hln h hb9 hbq HG2 hI0 q2 h3
    go_wp2_with fail
    refine HVV.out.mono ?_
    rintro e w5 ⟨vl, rfl, hov, hb5⟩
    have HOV := Lib.hid hov
    have HB5 := Lib.hid hb5
    have hvs : ∃ va vc, vl = .slice va V.length vc := by
      obtain ⟨va, vc, e, -, -⟩ := (SlR.of_own hov).shape
      exact ⟨va, vc, e⟩
    obtain ⟨va, vc, rfl⟩ := hvs
    have HSV := Lib.hid (decl_vars HK.out.d)
    have HNW := Lib.hid (fun (x : Vr) (hx : x ∈ V) => (show nowF (preS S) (preS S).length x.sc = some (.int .i64 (pos (preS S) x.sc)) by
      unfold nowF
      obtain ⟨y1, y2, -⟩ := HSV.out x hx
      rw [if_pos]
      by_cases h0 : x.sc = -1
      · exact .inl h0
      · refine .inr ⟨by omega, ?_⟩
        rw [List.take_of_length_le (Nat.le_refl _)]
        exact (preS_mem HF.out).2 (by omega)))
    have HV1 := Lib.hid (show (vr1 S V).length = V.length by simp [vr1])
    clear hov hb5 co cn HVV
    go_wp2_with fail
    go_loopw [48] (fun i wr => ∃ k : Nat, k ≤ V.length ∧ i = .int .i64 k ∧ wr.ownsRow W.heap.size 42 7 (.slice va V.length vc) V.length (vrs ((vr1 S V).take k ++ V.drop k)) ∧ Below W.heap.size W wr) (fun i _ => V.length - (intOf i).toNat)
    case atStart => exact ⟨0, Nat.zero_le _, rfl, HOV.out, HB5.out⟩
    case round =>
      obtain ⟨k, hk, rfl, ho, hb⟩ := hrel
      have HO := Lib.hid ho
      have HB := Lib.hid hb
      clear ho hb
      by_cases hlt : k < V.length
      · have hzz := (HI.out.below HB.out)
        have cn := (one_free hzz.bn).1
        have HMM := Lib.hid hzz.m
        have hk1 : ((vr1 S V).take k).length = k := by rw [List.length_take, HV1.out]; omega
        have hvk : (vr1 S V)[k]'(by rw [HV1.out]; exact hlt) = { V[k] with sc := pos (preS S) V[k].sc } := by simp [vr1]
        have hog : wr.ownsRow W.heap.size 42 7 (.slice va V.length vc) V.length (vrs ((vr1 S V).take k ++ V[k] :: V.drop (k + 1))) := by
          have := HO.out
          rwa [List.drop_eq_getElem_cons hlt] at this
        rcases hog.2 with ⟨-, h0⟩ | ⟨g, cap', cur, e0, -⟩
        · omega
        injection e0 with e0 _ e1
        subst e0 e1
        have hso : SO W.heap.size g V.length vc wr ((vr1 S V).take k ++ V[k] :: V.drop (k + 1)) := hog
        have d2 := hso.at.2.2.1
        have f2 := own_frozen hog (k * 7 + 2)
        rw [hk1] at d2
        have HPS := Lib.hid (hso.putSc (pos (preS S) V[k].sc))
        rw [hk1] at HPS
        have HNK := Lib.hid (HNW.out V[k] (List.getElem_mem hlt))
        have hsc := HSV.out V[k] (List.getElem_mem hlt)
        have hwp : (Lit.int .i64 V[k].sc).wf = true := wf_of (by omega) (by omega)
        have HTK := Lib.hid (show (vr1 S V).take (k + 1) ++ V.drop (k + 1) = (vr1 S V).take k ++ { V[k] with sc := pos (preS S) V[k].sc } :: V.drop (k + 1) by
          rw [List.take_succ_eq_append_getElem (by rw [HV1.out]; exact hlt), hvk]; simp)
        have HGL := Lib.hid (hso.lo)
        generalize hxx : V[k] = x at *
        clear hso hog hk1 hvk hzz hxx hsc
        obtain ⟨sc, hsc⟩ : ∃ sc, x.sc = sc := ⟨_, rfl⟩
        obtain ⟨pp, hpp⟩ : ∃ pp, pos (preS S) sc = pp := ⟨_, rfl⟩
        rw [hsc] at d2 HNK hwp HPS HTK
        rw [hpp] at HNK HPS HTK
        have hlk : (Instr.lookup 93 (.map (some (b9 + 1))) (.int .i64 sc) false).run Tryz.prog wr.drew = .ok (.int .i64 pp) wr.drew := by
          have := (HMM.out.same (w' := wr.drew) rfl).look1 (t := 93) Tryz.underlying93 (zeroI _) sc hwp
          rw [HNK.out] at this
          exact this
        have hlk2 : (Instr.lookup 93 (.map (some (b9 + 1))) (.int .i64 sc) false).run Tryz.prog wr = .ok (.int .i64 pp) wr := by
          have := HMM.out.look1 (t := 93) Tryz.underlying93 (zeroI _) sc hwp
          rw [HNK.out] at this
          exact this
        clear hsc hpp
        go_wp2_with fail
        go_region
        clear hlk hlk2 cn d2 f2
        go_wp2_with fail
        go_roundw
        case rel => exact ⟨k + 1, hlt, by go_num, by rw [HTK.out]; exact HPS.out, (HB.out.setCell (p := ⟨g, k * 7 + 2, none⟩) HGL.out.1 _).drew⟩
        case measure => simp [intOf]; omega
      · obtain rfl : k = V.length := by omega
        have hso : wr.ownsRow W.heap.size 42 7 (.slice va V.length vc) (vr1 S V).length (vrs (vr1 S V)) := by
          have := HO.out
          rw [List.drop_length, List.append_nil, List.take_of_length_le (by rw [HV1.out]; exact Nat.le_refl _)] at this
          rw [HV1.out]
          exact this
        have HSO := Lib.hid (hi_sort W.heap.size _ (vr1 S V) wr hso (by rw [HV1.out]; omega))
        clear hlt hso
        go_wp2_with fail
        refine HSO.out.mono ?_
        rintro e w6 ⟨rfl, ho6, hb6⟩
        have HNB := Lib.hid (hi_number W.heap.size _ (isort vk (vr1 S V)) w6 (by have := HB.out.size; have := hb6.size; omega) (by rw [isort_len]; exact ho6) (by rw [isort_len, HV1.out]; omega) (fun x hx => by
          rw [isort_mem] at hx
          obtain ⟨y, hy, rfl⟩ := List.mem_map.1 hx
          exact HSG.out y hy))
        have HB6 := Lib.hid (HB.out.trans hb6)
        clear ho6 hb6 HSO
        go_wp2_with fail
        refine HNB.out.mono ?_
        rintro e w7 ⟨vf, rfl, ho7, hf7, hb7⟩
        have HB7 := Lib.hid (HB6.out.trans hb7)
        have HO7 := Lib.hid ho7
        have HF7 := Lib.hid hf7
        have co7 := (one_free (HI.out.below HB7.out).bo).1
        have HOU7 := Lib.hid (own_same0 HOU.out (Same0.of_below HB7.out))
        have HD7 := Lib.hid (show w7.heap[D]? = some (.deferred (some [])) by rw [HB7.out.block D (Array.getElem?_eq_some_iff.1 HD.out.2).1]; exact HD.out.2)
        obtain ⟨fa, fc, rfl, -, -⟩ := (SlR.of_own hf7).shape
        obtain ⟨oa, oc, rfl, -, -⟩ := (SlR.of_own HOU.out).shape
        clear ho7 hf7 hb7 HNB
        go_wp2_with fail
        refine ⟨by simp, .inl ⟨_, _, rfl, run_takeDeferred HD7.out, ?_⟩⟩
        have hwz : w.heap.size ≤ W.heap.size := HI.out.b.size
        have r1 := ownsRow_putObj HOU7.out (.deferred none) HD7.out rfl
        have r2 := ownsRow_putObj (ownsRow_base HO7.out hwz) (.deferred none) HD7.out rfl
        have r3 := ownsRow_putObj (ownsRow_base HF7.out hwz) (.deferred none) HD7.out rfl
        have hvl : (vrF S V).1.length = V.length := by
          have : (numF [] (vr2 S V)).1.length = (vr2 S V).length := by
            have := congrArg List.length (num_keep (fun _ : Vr => (0 : Int)) (fun _ _ => rfl) (vr2 S V) [])
            simpa using this
          show (numF [] (vr2 S V)).1.length = V.length
          rw [this]
          unfold vr2
          rw [isort_len, HV1.out]
        rw [isort_len, HV1.out] at r2
        refine ⟨.tuple #[.slice oa (scF S).length oc, .slice va V.length vc, .slice fa (numF [] (isort vk (vr1 S V))).2.length fc, .int .i64 0], by simp [results, Tryz.results121, go_sem], ?_⟩
        rw [HQ.out]
        refine ⟨_, _, _, rfl, r1, ?_, r3, (HI.out.b.trans (HB7.out.mono hwz)).trans (belowK_b (w := W0) (by have := HI.out.z; omega) _ D _ _ HD.out.1 HD7.out rfl rfl)⟩
        show World.ownsRow _ _ _ _ _ (vrF S V).1.length (vrs (vrF S V).1)
        rw [hvl]
        exact r2
  case round =>
    intro l k W hlW ⟨vo, h⟩ hk
    have HND := Lib.hid (preS_nodup HF.out)
    obtain ⟨m, hm⟩ : ∃ m, (preS S)[k] = m := ⟨_, rfl⟩
    have hmS : m < S.length := by rw [← hm]; exact (preS_mem HF.out).1 (List.getElem_mem hk)
    have HEN := Lib.hid (show ordE (preS S) k = #[.int .i64 (m : Int)] by
      unfold ordE
      rw [List.getD, List.getElem?_eq_getElem hk, hm]
      rfl)
    have hps : parS S m = S[m].2.2 := by simp [parS, List.getD, hmS]
    have hsx : (scF S)[k]? = some (S[m].1, S[m].2.1, pos (preS S) S[m].2.2) := by
      have hk2 : k < (scF S).length := by rw [scF_len HF.out, ← HPL.out]; exact hk
      rw [List.getElem?_eq_getElem hk2, scF_at hk2 hk, hm, ← hps]
      simp [List.getD, hmS]
    have hpk := parent_known (S := S) hk
    rw [hm, hps] at hpk
    have HPW := Lib.hid (HF.out m hmS)
    rw [hps] at HPW
    have hkl : k < 100 := by have := HPL.out; omega
    have HM := Lib.hid (fun (W1 W2 : World) (vo : Value) (h : OrI w v b9 bq S k k vo W1) (hm4 : KMap (intEnc (P := Tryz.prog) (K := 3) Tryz.underlying3) W2 (b9 + 1) (k + 1 + 1) (fun y => if y = (m : Int) then some (.int .i64 (k : Int)) else nowF (preS S) k y)) (hg4 : W1.grownBy W2 (some (b9 + 1))) => h.setM HND.out hk (by rw [hm]; exact hm4) hg4)
    have HCL := Lib.hid (fun (X : World) (hX : Same0 w X) => (HS.out.same0 hX))
    rw [HEN.out]
    clear HEN hm
    subst hv
    have HI := Lib.hid h
    clear h hb9 hbq HG2 hI0 q2 h3
    gi_wp2
    refine ⟨KeepsFrom.refl _ _, ⟨Nat.le_refl _, fun _ _ _ _ _ h => h⟩, ?_⟩
    intro W1 hs1 ht1
    have H1 := Lib.hid (HI.out.turn (by omega) ht1)
    clear hs1 ht1 HI
    obtain ⟨ct, -⟩ := one_free H1.out.bs
    obtain ⟨co, -⟩ := one_free H1.out.bo
    obtain ⟨cn, -⟩ := one_free H1.out.bn
    obtain ⟨ao, capo, rfl, -, -⟩ := (SlR.of_own H1.out.o).shape
    obtain ⟨bS, oS, rfl, hcell⟩ := (HCL.out _ (Same0.of_below H1.out.b)).scs hmS
    obtain ⟨x, hx⟩ : ∃ x, S[m] = x := ⟨_, rfl⟩
    have HSC := Lib.hid (fun (X : World) (hX : Same0 w X) (j : Nat) (u : Value) (hu : (scC x)[j]? = some u) => (show X.cell? ⟨bS, oS + m * 3 + j, none⟩ = some u by
      obtain ⟨b', o', e', hc'⟩ := (HCL.out X hX).scs hmS
      injection e' with e'
      injection e' with e1 e2 _
      subst e1 e2
      exact hc' j u (by rw [hx]; exact hu)))
    rw [hx] at hsx hpk HPW
    clear hcell hx hps
    obtain ⟨nm, ty, pa⟩ := x
    dsimp only at hsx hpk HPW
    have HSX := Lib.hid hsx
    have HPK := Lib.hid (show nowF (preS S) (k + 1) pa = some (.int .i64 (pos (preS S) pa)) by unfold nowF; rw [if_pos hpk])
    have hwm : (Lit.int .i64 (m : Int)).wf = true := wf_of (by omega) (by omega)
    have hwp : (Lit.int .i64 pa).wf = true := wf_of (by have := HPW.out; omega) (by have := HPW.out; omega)
    generalize pos (preS S) pa = pp at *
    clear hsx hpk
    have hbz := H1.out.b.size
    have H6X := Lib.hid (fun (X Y : World) (h : OrI w (.slice (some ⟨bS, oS, none⟩) S.length cap) b9 bq S k (k + 1) (.slice ao k capo) X) (hg : X.grownBy Y (.slice ao k capo : Value).ownBlock) => h.keepBo hg)
    gi_wp2_with (first
      | (gi_at_builtin; refine wpListIn_append_own _ rfl _ _ 22 rfl w.heap.size 55 i0 (.agg #[.string ⟨#[]⟩, .int .i64 0, .int .i64 0]) 3 32 Tryz.underlying22 hi0 iz0 iz1 iz2 rfl (by decide) _ _ _ rfl H5.out.o ⟨w4.heap.size + 1, 0, none⟩ 1 1 [.string (bsB nm), .int .i64 ty, .int .i64 pp] rfl rfl HN5.out (by simp [Value.oneCell']) (by unfold maxLen; omega) (by omega) (by simp; omega) ?_; rintro v' w6 ho6 hg6 -; obtain ⟨g6, cap6, rfl⟩ := own_succ ho6; have H6 := Lib.hid (H5.out.add HSX.out ho6 hg6); have HG6 := Lib.hid hg6; have co6 := (one_free (H6X.out _ _ H5.out hg6)).1; have fo6 := (one_free (H6X.out _ _ H5.out hg6)).2; clear ho6 hg6)
      | (refine wpListIn_putK _ rfl _ _ _ 93 rfl 3 Tryz.underlying93 (b9 + 1) (k + 1) _ rfl H1.out.m (by unfold maxLen; omega) (m : Int) (.int .i64 (k : Int)) rfl rfl hwm ?_; intro w4 hm4 hg4; have H4 := Lib.hid (HM.out _ _ _ H1.out hm4 hg4); have ct4 := (one_free H4.out.bs).1; have co4 := (one_free H4.out.bo).1; have cn4 := (one_free H4.out.bn).1; have zq : bq < w4.heap.size := cell_lt cn4; have z9 : b9 < w4.heap.size := cell_lt co4; have d0 : w4.cell? ⟨bS, oS + m * 3, none⟩ = some (.string (bsB nm)) := (HSC.out _ (Same0.of_below H4.out.b) 0 _ rfl); have d1 : w4.cell? ⟨bS, oS + m * 3 + 1, none⟩ = some (.int .i64 ty) := (HSC.out _ (Same0.of_below H4.out.b) 1 _ rfl); have d2 : w4.cell? ⟨bS, oS + m * 3 + 2, none⟩ = some (.int .i64 pa) := (HSC.out _ (Same0.of_below H4.out.b) 2 _ rfl); have hlk : (Instr.lookup 93 (.map (some (b9 + 1))) (.int .i64 pa) false).run Tryz.prog (w4.alloc (.cells #[.string (bsB nm), .int .i64 ty, .int .i64 pa] 55)) = .ok (.int .i64 pp) (w4.alloc (.cells #[.string (bsB nm), .int .i64 ty, .int .i64 pa] 55)) := (by have := (H4.out.m.below ((Below.refl w4.heap.size w4).alloc (Nat.le_refl _) (.cells #[.string (bsB nm), .int .i64 ty, .int .i64 pa] 55)) H4.out.m.lt).look1 (t := 93) Tryz.underlying93 (zeroI _) pa hwp; rw [HPK.out] at this; exact this); have HG4 := Lib.hid hg4; have hN5 := heap_alloc_new (w4.alloc (.cells #[.string (bsB nm), .int .i64 ty, .int .i64 pp] 55)) (.cells #[.string (bsB nm), .int .i64 ty, .int .i64 pp] 55); rw [World.size_alloc] at hN5; have HN5 := Lib.hid (World.news_of_block (cs := #[.string (bsB nm), .int .i64 ty, .int .i64 pp]) (t := 55) (fr := (0, 0)) hN5); have H5 := Lib.hid (H4.out.below (((Below.refl w4.heap.size w4).alloc (Nat.le_refl _) (.cells #[.string (bsB nm), .int .i64 ty, .int .i64 pp] 55)).alloc (by simp) (.cells #[.string (bsB nm), .int .i64 ty, .int .i64 pp] 55))); clear hm4 hg4 ct co cn hN5))
    have hz9 := H1.out.z.1
    have ha1 := (KeepsOthers.alloc w4 (.cells #[.string (bsB nm), .int .i64 ty, .int .i64 pp] 55)).trans (KeepsOthers.alloc _ (.cells #[.string (bsB nm), .int .i64 ty, .int .i64 pp] 55))
    have ha2 : Below w4.heap.size w4 ((w4.alloc (.cells #[.string (bsB nm), .int .i64 ty, .int .i64 pp] 55)).alloc (.cells #[.string (bsB nm), .int .i64 ty, .int .i64 pp] 55)) := ((Below.refl w4.heap.size w4).alloc (Nat.le_refl _) _).alloc (by simp) _
    refine ⟨?_, ?_, ⟨_, H6.out⟩⟩
    · exact ((KeepsFrom.of_grownBy HG4.out (fun j ej => by injection ej with ej; omega)).trans (ha1.from _)).trans ((H5.out.others HG6.out).from _)
    · refine KpO.trans (B := w4) ⟨HG4.out.size, fun b C T fr hb hc => ?_⟩ (KpO.trans (KpO.same0 (Same0.of_below ha2)) (H5.out.kp HG6.out))
      rw [HG4.out.block b (Array.getElem?_eq_some_iff.1 hc).1 (fun q => by injection q with q; omega)]
      exact hc
theorem hi_Order (v v2 : Value) (S : List Sc) (V : List Vr) (w : World) (hs : SlR w v S.length (scs S)) (hv : SlR w v2 V.length (vrs V)) (hl : S.length ≤ 1000 ∧ V.length ≤ 1000) (hn : (∀ s ∈ S, s.1.length ≤ 100000) ∧ ∀ x ∈ V, x.nm.length ≤ 100000)
    (hsg : ∀ x ∈ V, (Lit.int .i64 x.sg).wf = true) : Calls Tryz.prog 121 #[v, v2] w (OrdPost (orderF S V) w) := by
  by_cases he : checkF S V = 0
  · exact ord_ok v v2 S V w hs hv hl hn hsg he
  · exact ord_err v v2 S V w hs hv hl hn he
end Go.Proofs.YtbiadennhnokhaaGreatDoor
/- Plain: what is built of a trace is built to itself. -/
namespace Go.Proofs.YtbiadennhnokhaaGreatDoor

theorem firstE_zero {α : Type} {f : α → Int} : ∀ {l : List α}, firstE f l = 0 ↔ ∀ x ∈ l, f x = 0
  | [] => by simp [firstE]
  | x :: l => by
    unfold firstE
    split
    · rename_i h
      exact ⟨fun h' => absurd h' h, fun h' => absurd (h' x (by simp)) h⟩
    · rename_i h
      have h : f x = 0 := by simpa using h
      rw [firstE_zero]
      exact ⟨fun h' y hy => (List.mem_cons.1 hy).elim (fun e => e ▸ h) (h' y), fun h' y hy => h' y (List.mem_cons_of_mem _ hy)⟩
/-- what a build that ends well says -/
structure Built (t a : Tr) (P : List Gp) (en : Int) : Prop where
  tx : textsF t = 0
  dc : declE t = 0
  ft : ∀ v ∈ (orderF t.S t.V).2.1, fitE (sig1 t) v = 0
  nm : ∀ s ∈ sig1 t, (normalizeR s.1 s.2.1 s.2.2).2 = 0
  tm : timesF t (normL (sig1 t)) = some (P, en)
  cl : clearF P en (normL (sig1 t)) = 0
  eq : a = ⟨t.sc, t.dt, t.vn, t.cm, (orderF t.S t.V).1, (orderF t.S t.V).2.1, clrL P en (normL (sig1 t)), P, en⟩
theorem buildF_ok {t a : Tr} (h : buildF t = (a, 0)) : ∃ P en, Built t a P en := by
  unfold buildF at h
  split at h
  · rename_i h1; injection h with _ h; exact absurd h h1
  split at h
  · rename_i h1; injection h with _ h; exact absurd h h1
  split at h
  · rename_i h1; injection h with _ h; exact absurd h h1
  split at h
  · rename_i h1; injection h with _ h; exact absurd h h1
  rename_i h1 h2 h3 h4
  split at h
  · injection h with _ h; exact absurd h (by decide)
  rename_i P en h5
  split at h
  · rename_i h1; injection h with _ h; exact absurd h h1
  rename_i h6
  injection h with h _
  exact ⟨P, en, by simpa using h1, by simpa using h2, firstE_zero.1 (by simpa using h3), firstE_zero.1 (by unfold normE at h4; simpa using h4), h5, by simpa using h6, h.symm⟩
theorem Built.build {t a : Tr} {P : List Gp} {en : Int} (h : Built t a P en) : buildF t = (a, 0) := by
  obtain ⟨h1, h2, h3, h4, h5, h6, h7⟩ := h
  unfold buildF
  have h3' := firstE_zero.2 h3
  have h4' : normE (sig1 t) = 0 := firstE_zero.2 h4
  rw [if_neg (by simp [h1]), if_neg (by simp [h2]), if_neg (by simp [h3']), if_neg (by simp [h4']), h5]
  simp only
  rw [if_neg (by simp [h6]), h7]
theorem declE_ok {t : Tr} (h : declE t = 0) : checkF t.S t.V = 0 ∧ orderF t.S t.V = (scF t.S, (vrF t.S t.V).1, (vrF t.S t.V).2, 0) ∧ (∀ n ∈ (vrF t.S t.V).2, n < (t.G.length : Int)) ∧ (vrF t.S t.V).2.length ≤ 64 := by
  unfold declE at h
  split at h
  · rename_i h1; exact absurd h h1
  rename_i h1
  have e : checkF t.S t.V = 0 := by
    unfold orderF at h1
    split at h1
    · rename_i h2; exact absurd h2 h1
    · rename_i h2; simpa using h2
  have e2 : orderF t.S t.V = (scF t.S, (vrF t.S t.V).1, (vrF t.S t.V).2, 0) := by unfold orderF; rw [if_neg (by simp [e])]
  rw [e2] at h
  split at h
  · cases h
  rename_i h3
  split at h
  · cases h
  rename_i h4
  refine ⟨e, e2, fun n hn => ?_, by simpa using h4⟩
  have h3 : ¬ (vrF t.S t.V).2.any (fun n => decide ((t.G.length : Int) ≤ n)) = true := h3
  rw [Bool.not_eq_true, List.any_eq_false] at h3
  have := h3 n hn
  simp at this
  exact this
theorem declE_of {t : Tr} {S : List Sc} {V : List Vr} {F : List Int} (h : orderF t.S t.V = (S, V, F, 0)) (h2 : ∀ n ∈ F, n < (t.G.length : Int)) (h3 : F.length ≤ 64) : declE t = 0 := by
  unfold declE
  rw [h]
  simp only
  rw [if_neg (by simp), if_neg, if_neg (by omega)]
  rw [Bool.not_eq_true, List.any_eq_false]
  intro n hn
  have := h2 n hn
  simp; omega
theorem rgI_sg (G : List Sg) : (rgI G.length).map (sgI G) = G := by
  apply List.ext_getElem
  · simp [rgI]
  · intro i h1 h2
    simp [rgI, sgI, List.getD, List.getElem?_eq_getElem h2]
theorem sgI_map {β : Type} (f : Sg → β) {G H : List Sg} (h : G.map f = H.map f) (n : Int) : f (sgI G n) = f (sgI H n) := by
  have e : ∀ K : List Sg, f (sgI K n) = (K.map f).getD n.toNat (f (0, 0, [])) := fun K => by
    unfold sgI
    rw [List.getD, List.getD, List.getElem?_map]
    cases K[n.toNat]? <;> rfl
  rw [e, e, h]
theorem fitE_map {G H : List Sg} (h : G.map (fun s => (s.1, s.2.1)) = H.map fun s => (s.1, s.2.1)) (v : Vr) : fitE G v = fitE H v := by
  have e := sgI_map (fun s => (s.1, s.2.1)) h v.sg
  obtain ⟨e1, e2⟩ := Prod.mk.inj e
  unfold fitE
  rw [e1, e2]
theorem normL_map {G : List Sg} (h : ∀ s ∈ G, (normalizeR s.1 s.2.1 s.2.2).2 = 0) : (normL G).map (fun s => (s.1, s.2.1)) = G.map fun s => (s.1, s.2.1) := by
  unfold normL
  rw [List.map_map]
  refine List.map_congr_left fun s hs => ?_
  have := (nz_ok (h s hs)).1
  simp [this]
theorem normL_sv {G : List Sg} (h : ∀ s ∈ G, (normalizeR s.1 s.2.1 s.2.2).2 = 0) : ∀ s ∈ normL G, sv s.1 s.2.1 s.2.2 = true := fun s hs => by
  obtain ⟨x, hx, rfl⟩ := List.mem_map.1 hs
  have := h x hx
  rw [(nz_ok this).1]
  exact nz_sv this
theorem normL_id {G : List Sg} (h : ∀ s ∈ G, sv s.1 s.2.1 s.2.2 = true) : normL G = G ∧ ∀ s ∈ G, (normalizeR s.1 s.2.1 s.2.2).2 = 0 := by
  refine ⟨?_, fun s hs => by rw [nz_id (h s hs)]⟩
  unfold normL
  rw [List.map_congr_left (g := id) (fun s hs => by rw [nz_id (h s hs)]; rfl), List.map_id]

/-! the last time -/
theorem nd_last {a : Int} : ∀ {l : List Ch} {c : Ch}, NonDec a l → l.getLast? = some c → (∀ d ∈ l, d.1 ≤ c.1) ∧ c ∈ l
  | [], _, _, h => by cases h
  | [x], c, _, h => by
    simp at h
    subst h
    exact ⟨fun d hd => by rw [List.mem_singleton] at hd; subst hd; omega, by simp⟩
  | x :: y :: l, c, h1, h => by
    rw [List.getLast?_cons_cons] at h
    obtain ⟨h2, h3⟩ := nd_last h1.2 h
    refine ⟨fun d hd => ?_, List.mem_cons_of_mem _ h3⟩
    rcases List.mem_cons.1 hd with rfl | hd
    · have := h2 y (by simp)
      have := h1.2.1
      omega
    · exact h2 d hd
theorem lastT_cons (s : Sg) (G : List Sg) (en : Int) : lastT (s :: G) en = lastT G (match s.2.2.getLast? with
  | none => en
  | some c => max en c.1) := rfl
theorem lastT_ge : ∀ (G : List Sg) (en : Int), en ≤ lastT G en
  | [], _ => Int.le_refl _
  | s :: G, en => by
    rw [lastT_cons]
    cases s.2.2.getLast? with
    | none => exact lastT_ge G en
    | some c => have := lastT_ge G (max en c.1); show en ≤ lastT G (max en c.1); omega
theorem lastT_mem : ∀ (G : List Sg) (en : Int), (∀ s ∈ G, NonDec 0 s.2.2) → ∀ s ∈ G, ∀ c ∈ s.2.2, c.1 ≤ lastT G en
  | [], _, _, s, hs => by cases hs
  | x :: G, en, hn, s, hs => by
    intro c hc
    rw [lastT_cons]
    rcases List.mem_cons.1 hs with rfl | hs
    · cases hl : s.2.2.getLast? with
      | none => rw [List.getLast?_eq_none_iff] at hl; rw [hl] at hc; cases hc
      | some d =>
        have := (nd_last (hn s (by simp)) hl).1 c hc
        have := lastT_ge G (max en d.1)
        show c.1 ≤ lastT G (max en d.1)
        omega
    · exact lastT_mem G _ (fun s hs => hn s (List.mem_cons_of_mem _ hs)) s hs c hc
theorem lastT_le {B : Int} : ∀ (G : List Sg) (en : Int), en ≤ B → (∀ s ∈ G, ∀ c ∈ s.2.2, c.1 ≤ B) → lastT G en ≤ B
  | [], _, h, _ => h
  | s :: G, en, h, hm => by
    rw [lastT_cons]
    refine lastT_le G _ ?_ (fun x hx => hm x (List.mem_cons_of_mem _ hx))
    cases hl : s.2.2.getLast? with
    | none => exact h
    | some c =>
      have := hm s (by simp) c (List.mem_of_getLast? hl)
      show max en c.1 ≤ B
      omega

/-! what is known of the gaps and the End -/
structure Times (P : List Gp) (en : Int) (G : List Sg) : Prop where
  ok : GapsOk 0 P
  most : ∀ g ∈ P, g.2 ≤ 1099511627777 ∧ g.2 - 1 ≤ en
  lo : 0 ≤ en
  hi : en ≤ 1099511627776
  ch : ∀ s ∈ G, ∀ c ∈ s.2.2, c.1 ≤ en
theorem timesF_ok {t : Tr} {G : List Sg} {P : List Gp} {en : Int} (h : timesF t G = some (P, en)) (hs : ∀ s ∈ G, sv s.1 s.2.1 s.2.2 = true) : Times P en G ∧ t.en ≤ en ∧ ∀ u, inP P u = inP t.P u := by
  unfold timesF at h
  split at h
  · cases h
  rename_i h1
  cases hg : gapsGo 0 [] t.en t.P with
  | none => rw [hg] at h; cases h
  | some r =>
    obtain ⟨Q, e⟩ := r
    rw [hg] at h
    injection h with h
    injection h with h2 h3
    subst h2
    obtain ⟨⟨c, ha⟩, q2, q3, q4, q5⟩ := gapsGo_ok _ _ _ _ _ _ hg ⟨trivial, fun _ h => by (cases h), fun _ h => by (cases h)⟩ (fun _ h => by (cases h))
    have hge := lastT_ge G e
    have h3 : lastT G e = en := h3
    refine ⟨⟨ha.ok, fun g hg => ⟨ha.most g hg, by have := q2 g hg; omega⟩, by omega, ?_, fun s hs' c hc => ?_⟩, by omega, fun u => by rw [q5]; rfl⟩
    · rw [← h3]
      exact lastT_le G e (by omega) (fun s hs' c hc => (sv_mem (hs s hs') c hc).2.1)
    · rw [← h3]
      exact lastT_mem G e (fun s hs' => sv_nonDec (hs s hs')) s hs' c hc
theorem Times.f {t : Tr} {G : List Sg} {P : List Gp} {en : Int} (h : Times P en G) (h1 : t.P = P) (h2 : t.en = en) : timesF t G = some (P, en) := by
  unfold timesF
  rw [h1, h2, if_neg (by have := h.lo; have := h.hi; omega), gapsGo_id P 0 [] en (Int.le_refl _) h.ok (fun _ h => by cases h) (fun x hx => ⟨(h.most x hx).2, (h.most x hx).1⟩) 0 (Int.le_refl _)]
  show some (([] : List Gp) ++ P, lastT G en) = some (P, en)
  have e : lastT G en = en := Int.le_antisymm (lastT_le G en (Int.le_refl _) h.ch) (lastT_ge G en)
  rw [e]
  rfl

/-! a signal that is x in the gaps -/
theorem gapTo_mem {P : List Gp} {en : Int} {G : List Sg} (h : Times P en G) {g : Gp} (hg : g ∈ P) : 0 ≤ g.1 ∧ g.1 ≤ en ∧ g.1 < gapTo en g ∧ (gapTo en g ≤ 1099511627776 → gapTo en g = g.2 ∧ g.2 ≤ en) := by
  have h1 := h.ok.mem g hg
  have h2 := h.most g hg
  have := h.hi
  refine ⟨h1.1, by omega, (gapTo_gt h1.2 h2.1).1, fun h3 => ?_⟩
  unfold gapTo at h3 ⊢
  split at h3
  · omega
  · rw [if_neg (by omega)]; omega
/-- what is known of a signal that was made x in the gaps -/
theorem off_ok {P : List Gp} {en : Int} {G : List Sg} (h : Times P en G) {n : Int} {cs : List Ch} (hs : sv 0 n cs = true) (hc : ∀ c ∈ cs, c.1 ≤ en) :
    NonDec 0 (offL (vi 0 n) (fun t => (atR 0 n cs t).1) en P cs) ∧ (∀ c ∈ offL (vi 0 n) (fun t => (atR 0 n cs t).1) en P cs, c.1 ≤ en ∧ vv 0 n c.2 = true) ∧
    ∀ u, 0 ≤ u → u ≤ 1099511627776 → val (vi 0 n) (offL (vi 0 n) (fun t => (atR 0 n cs t).1) en P cs) u = if inG en P u = true then vi 0 n else val (vi 0 n) cs u := by
  have hnd := sv_nonDec hs
  refine ⟨offL_nd _ _ en h.hi P cs 0 0 (Int.le_refl _) h.ok h.most hnd, fun c hc' => ?_, fun u h0 hu => ?_⟩
  · rcases offL_mem _ _ en h.hi P cs c hc' with h1 | ⟨g, hg, rfl⟩ | ⟨g, hg, rfl, h6⟩
    · exact ⟨hc c h1, (sv_mem hs c h1).2.2⟩
    · exact ⟨(gapTo_mem h hg).2.1, vv_vi (sv_iff.1 hs).1⟩
    · obtain ⟨q0, q1, q2, q3⟩ := gapTo_mem h hg
      obtain ⟨q4, q5⟩ := q3 h6
      refine ⟨by show gapTo en g ≤ en; omega, ?_⟩
      show vv 0 n (atR 0 n cs (gapTo en g)).1 = true
      rw [atR_eq hs (by omega) h6]
      exact val_vv hs _
  · refine offL_val _ _ en h.hi u hu P cs _ 0 0 (Int.le_refl _) h.ok h.most hnd (fun g hg h6 => ?_)
    obtain ⟨q0, q1, q2, q3⟩ := gapTo_mem h hg
    rw [atR_eq hs (by omega) h6]
theorem off_sv {P : List Gp} {en : Int} {G : List Sg} (h : Times P en G) {n : Int} {cs : List Ch} (hs : sv 0 n cs = true) (hc : ∀ c ∈ cs, c.1 ≤ en) (h0 : (offF P en (0, n, cs)).2 = 0) :
    ∃ ds, offF P en (0, n, cs) = ((0, n, ds), 0) ∧ sv 0 n ds = true ∧ (∀ c ∈ ds, c.1 ≤ en) ∧ ∀ u, 0 ≤ u → u ≤ 1099511627776 → val (vi 0 n) ds u = if inG en P u = true then vi 0 n else val (vi 0 n) cs u := by
  obtain ⟨h1, h2, h3⟩ := off_ok h hs hc
  unfold offF at h0 ⊢
  refine ⟨_, (nz_ok h0).1, nz_sv h0, fun c hc' => (h2 c ((normGo_sub _ _ _).subset hc')).1, fun u hu0 hu => ?_⟩
  rw [← h3 u hu0 hu]
  exact val_normGo 0 u _ _ 0 h1
theorem off_again {P : List Gp} {en : Int} {G : List Sg} (h : Times P en G) {n : Int} {cs : List Ch} (hs : sv 0 n cs = true) (hc : ∀ c ∈ cs, c.1 ≤ en)
    (hx : ∀ u, 0 ≤ u → u ≤ 1099511627776 → inG en P u = true → val (vi 0 n) cs u = vi 0 n) : offF P en (0, n, cs) = ((0, n, cs), 0) := by
  obtain ⟨h1, h2, h3⟩ := off_ok h hs hc
  have hm : ∀ c ∈ offL (vi 0 n) (fun t => (atR 0 n cs t).1) en P cs, c.1 ≤ 1099511627776 ∧ vv 0 n c.2 = true := fun c hc' => ⟨by have := (h2 c hc').1; have := h.hi; omega, (h2 c hc').2⟩
  have e : normS 0 n (offL (vi 0 n) (fun t => (atR 0 n cs t).1) en P cs) = cs := by
    refine svGo_unique (k := 0) (n := n) (by decide) _ _ (-1) (vi 0 n) (svGo_normGo 0 n _ _ (-1) (show NonDec (-1 + 1) _ from h1) hm) (sv_iff.1 hs).2.2 (fun u hu0 hu => ?_)
    rw [show val (vi 0 n) (normS 0 n (offL (vi 0 n) (fun t => (atR 0 n cs t).1) en P cs)) u = _ from val_normGo 0 u _ _ 0 h1, h3 u (by omega) hu]
    split
    · rename_i hi; exact (hx u (by omega) hu hi).symm
    · rfl
  unfold offF
  rw [nz_of (sv_iff.1 hs).1 h1 hm (by rw [e]; exact (sv_iff.1 hs).2.1), e]
theorem clearF_ok {P : List Gp} {en : Int} {G : List Sg} (h : clearF P en G = 0) : P.length ≤ 16 ∧ (∀ s ∈ G, s.1 = 0 → (offF P en s).2 = 0) ∧ countL (clrL P en G) ≤ 4096 := by
  unfold clearF at h
  split at h
  · cases h
  rename_i h1
  split at h
  · rename_i h2; exact absurd h h2
  rename_i h2
  split at h
  · cases h
  rename_i h3
  have h2 : clrE P en G = 0 := by simpa using h2
  refine ⟨by omega, fun s hs h0 => ?_, by omega⟩
  have := firstE_zero.1 h2 s hs
  rwa [if_pos h0] at this
theorem clearF_of {P : List Gp} {en : Int} {G : List Sg} (h1 : P.length ≤ 16) (h2 : ∀ s ∈ G, s.1 = 0 → (offF P en s).2 = 0) (h3 : countL (clrL P en G) ≤ 4096) : clearF P en G = 0 := by
  unfold clearF
  have e : clrE P en G = 0 := firstE_zero.2 fun s hs => by
    split
    · rename_i h0; exact h2 s hs h0
    · rfl
  rw [if_neg (by omega), if_neg (by simp [e]), if_neg (by omega)]

/-- the signals of what is built -/
theorem Built.sigs {t a : Tr} {P : List Gp} {en : Int} (h : Built t a P en) : Times P en (normL (sig1 t)) ∧ Times P en a.G ∧ (∀ s ∈ a.G, sv s.1 s.2.1 s.2.2 = true) ∧ a.G.map (fun s => (s.1, s.2.1)) = (sig1 t).map (fun s => (s.1, s.2.1)) ∧
    (∀ s ∈ a.G, s.1 = 0 → ∀ u, 0 ≤ u → u ≤ 1099511627776 → inG en P u = true → val (vi 0 s.2.1) s.2.2 u = vi 0 s.2.1) ∧ P.length ≤ 16 ∧ countL a.G ≤ 4096 ∧ t.en ≤ en ∧ ∀ u, inP P u = inP t.P u := by
  obtain ⟨h1, h2, h3, h4, h5, h6, h7⟩ := h
  have hN := normL_sv h4
  obtain ⟨hT, he, hi⟩ := timesF_ok h5 hN
  obtain ⟨c1, c2, c3⟩ := clearF_ok h6
  have hNm := normL_map h4
  generalize normL (sig1 t) = N at *
  have key : ∀ s ∈ N, s.1 = 0 → ∃ ds, offF P en s = ((0, s.2.1, ds), 0) ∧ sv 0 s.2.1 ds = true ∧ (∀ c ∈ ds, c.1 ≤ en) ∧ ∀ u, 0 ≤ u → u ≤ 1099511627776 → inG en P u = true → val (vi 0 s.2.1) ds u = vi 0 s.2.1 := by
    rintro ⟨k, n, cs⟩ hs h0
    have h0 : k = 0 := h0
    subst h0
    obtain ⟨ds, e1, e2, e3, e4⟩ := off_sv hT (hN _ hs) (hT.ch _ hs) (c2 _ hs rfl)
    exact ⟨ds, e1, e2, e3, fun u hu0 hu hx => by rw [e4 u hu0 hu, if_pos hx]⟩
  have hG : a.G = clrL P en N := by rw [h7]
  rw [hG]
  have hm : ∀ s ∈ clrL P en N, sv s.1 s.2.1 s.2.2 = true ∧ (∀ c ∈ s.2.2, c.1 ≤ en) ∧ (s.1 = 0 → ∀ u, 0 ≤ u → u ≤ 1099511627776 → inG en P u = true → val (vi 0 s.2.1) s.2.2 u = vi 0 s.2.1) := by
    intro s hs
    obtain ⟨x, hx, rfl⟩ := List.mem_map.1 hs
    split
    · rename_i h0
      obtain ⟨ds, e1, e2, e3, e4⟩ := key x hx h0
      rw [e1]
      exact ⟨e2, e3, fun _ => e4⟩
    · rename_i h0
      exact ⟨hN x hx, hT.ch x hx, fun h => absurd h h0⟩
  refine ⟨hT, ⟨hT.ok, hT.most, hT.lo, hT.hi, fun s hs => (hm s hs).2.1⟩, fun s hs => (hm s hs).1, ?_, fun s hs => (hm s hs).2.2, c1, c3, he, hi⟩
  rw [← hNm]
  unfold clrL
  rw [List.map_map]
  refine List.map_congr_left fun s hs => ?_
  show _ = (s.1, s.2.1)
  by_cases h0 : s.1 = 0
  · obtain ⟨ds, e1, -⟩ := key s hs h0
    simp only [Function.comp, e1, h0, if_true]
  · simp only [Function.comp, if_neg h0]
theorem build_again {t a : Tr} (h : buildF t = (a, 0)) : buildF a = (a, 0) := by
  obtain ⟨P, en, h⟩ := buildF_ok h
  obtain ⟨hTN, hT, hs, hmap, hx, h16, hct, -, -⟩ := h.sigs
  obtain ⟨h1, h2, h3, h4, h5, h6, h7⟩ := h
  obtain ⟨d1, d2, d3, d4⟩ := declE_ok h2
  obtain ⟨o1, o2, o3⟩ := order_again d1
  have hlen : a.G.length = (vrF t.S t.V).2.length := by
    have := congrArg List.length hmap
    rw [List.length_map, List.length_map] at this
    rw [this]
    unfold sig1
    rw [List.length_map, d2]
  have hS : a.S = scF t.S := by rw [h7, d2]
  have hV : a.V = (vrF t.S t.V).1 := by rw [h7, d2]
  have hO : orderF a.S a.V = (a.S, a.V, rgI a.G.length, 0) := by
    unfold orderF
    rw [hS, hV, if_neg (by simp [o1]), o2, o3, hlen]
  have hs1 : sig1 a = a.G := by
    unfold sig1
    rw [hO]
    exact rgI_sg a.G
  obtain ⟨hNi, hNo⟩ := normL_id hs
  have hoff : ∀ s ∈ a.G, s.1 = 0 → offF P en s = (s, 0) := by
    rintro ⟨k, n, cs⟩ hm h0
    have h0 : k = 0 := h0
    subst h0
    exact off_again hT (hs _ hm) (hT.ch _ hm) (hx _ hm rfl)
  have hcl : clrL P en a.G = a.G := by
    unfold clrL
    rw [List.map_congr_left (g := id) (fun s hm => by
      by_cases h0 : s.1 = 0
      · rw [if_pos h0, hoff s hm h0]; rfl
      · rw [if_neg h0]; rfl), List.map_id]
  refine Built.build (P := P) (en := en) ⟨?_, ?_, fun v hv => ?_, ?_, ?_, ?_, ?_⟩
  · rw [← h1, h7]; rfl
  · exact declE_of hO (fun n hn => (rgI_mem.1 hn).2) (by rw [rgI_len, hlen]; exact d4)
  · rw [hO] at hv
    have hv : v ∈ a.V := hv
    rw [hs1, fitE_map hmap]
    refine h3 v ?_
    rw [d2]
    rw [hV] at hv
    exact hv
  · rw [hs1]; exact hNo
  · rw [hs1, hNi]
    exact hT.f (by rw [h7]) (by rw [h7])
  · rw [hs1, hNi]
    exact clearF_of h16 (fun s hm h0 => by rw [hoff s hm h0]) (by rw [hcl]; exact hct)
  · rw [hs1, hNi, hcl, hO]
    rw [h7]
end Go.Proofs.YtbiadennhnokhaaGreatDoor
/- Plain: the values of the signals of what is built of a trace. -/
namespace Go.Proofs.YtbiadennhnokhaaGreatDoor

theorem num_pre : ∀ (l : List Vr) (fm : List Int), ∃ r, (numF fm l).2 = fm ++ r
  | [], fm => ⟨[], by simp [numF]⟩
  | v :: l, fm => by
    by_cases hc : fm.contains v.sg = true
    · rw [numF_in hc]; exact num_pre l fm
    · rw [numF_new hc]
      obtain ⟨r, hr⟩ := num_pre l (fm ++ [v.sg])
      exact ⟨v.sg :: r, by rw [hr, List.append_assoc]; rfl⟩
theorem num_from : ∀ (l : List Vr) (fm : List Int), ∀ w ∈ (numF fm l).1, ∃ v ∈ l, w = { v with sg := w.sg } ∧ 0 ≤ w.sg ∧ (numF fm l).2[w.sg.toNat]? = some v.sg
  | [], _ => by intro v hv; cases hv
  | v :: l, fm => by
    intro w hw
    by_cases hc : fm.contains v.sg = true
    · rw [numF_in hc] at hw ⊢
      rcases List.mem_cons.1 hw with rfl | hw
      · refine ⟨v, by simp, rfl, by dsimp only; omega, ?_⟩
        obtain ⟨r, hr⟩ := num_pre l fm
        have hi := List.idxOf_lt_length_of_mem (List.contains_iff_mem.1 hc)
        show (numF fm l).2[((fm.idxOf v.sg : Nat) : Int).toNat]? = some v.sg
        rw [Int.toNat_natCast, hr, List.getElem?_append_left hi, List.getElem?_eq_getElem hi, List.getElem_idxOf]
      · obtain ⟨x, hx, h1, h2, h3⟩ := num_from l fm w hw
        exact ⟨x, List.mem_cons_of_mem _ hx, h1, h2, h3⟩
    · rw [numF_new hc] at hw ⊢
      rcases List.mem_cons.1 hw with rfl | hw
      · refine ⟨v, by simp, rfl, by dsimp only; omega, ?_⟩
        obtain ⟨r, hr⟩ := num_pre l (fm ++ [v.sg])
        show (numF (fm ++ [v.sg]) l).2[(fm.length : Int).toNat]? = some v.sg
        rw [Int.toNat_natCast, hr, List.append_assoc, List.getElem?_append_right (Nat.le_refl _), Nat.sub_self]
        rfl
      · obtain ⟨x, hx, h1, h2, h3⟩ := num_from l _ w hw
        exact ⟨x, List.mem_cons_of_mem _ hx, h1, h2, h3⟩
end Go.Proofs.YtbiadennhnokhaaGreatDoor
/- Plain: what is not valid any more when a valid trace is changed. -/
namespace Go.Proofs.YtbiadennhnokhaaGreatDoor

theorem num_sub : ∀ (l : List Vr) (fm : List Int) (n : Int), n ∈ (numF fm l).2 → n ∈ fm ∨ ∃ v ∈ l, v.sg = n
  | [], _, _, h => .inl h
  | v :: l, fm, n, h => by
    by_cases hc : fm.contains v.sg = true
    · rw [numF_in hc] at h
      rcases num_sub l fm n h with h | ⟨x, hx, e⟩
      · exact .inl h
      · exact .inr ⟨x, List.mem_cons_of_mem _ hx, e⟩
    · rw [numF_new hc] at h
      rcases num_sub l _ n h with h | ⟨x, hx, e⟩
      · rcases List.mem_append.1 h with h | h
        · exact .inl h
        · rw [List.mem_singleton] at h
          exact .inr ⟨v, by simp, h.symm⟩
      · exact .inr ⟨x, List.mem_cons_of_mem _ hx, e⟩
/-- what a valid trace is -/
structure ValidT (t : Tr) : Prop where
  o : orderF t.S t.V = (t.S, t.V, rgI t.G.length, 0)
  c : checkF t.S t.V = 0
  f : ∀ v ∈ t.V, fitE t.G v = 0
  s : ∀ s ∈ t.G, sv s.1 s.2.1 s.2.2 = true
  n : t.G.length ≤ 64
  t : Times t.P t.en t.G
theorem validF_of {t : Tr} (h : validF t) : ValidT t := by
  obtain ⟨P, en, hb⟩ := buildF_ok h
  obtain ⟨hTN, hT, hs, hmap, hx, h16, hct, -, hin⟩ := hb.sigs
  obtain ⟨b1, b2, b3, b4, b5, b6, b7⟩ := hb
  obtain ⟨d1, d2, d3, d4⟩ := declE_ok b2
  obtain ⟨o1, o2, o3⟩ := order_again d1
  have eS : t.S = scF t.S := by
    have := congrArg Tr.S b7
    rw [d2] at this
    exact this
  have eV : t.V = (vrF t.S t.V).1 := by
    have := congrArg Tr.V b7
    rw [d2] at this
    exact this
  have eP : t.P = P := congrArg Tr.P b7
  have ee : t.en = en := congrArg Tr.en b7
  have hl : t.G.length = (vrF t.S t.V).2.length := by
    have := congrArg List.length hmap
    rw [List.length_map, List.length_map] at this
    rw [this]
    unfold sig1
    rw [List.length_map, d2]
  have eF : (vrF t.S t.V).2 = rgI t.G.length := by
    rw [← eS, ← eV] at o3
    rw [hl]
    exact congrArg Prod.snd o3
  have hO : orderF t.S t.V = (t.S, t.V, rgI t.G.length, 0) := by rw [d2, ← eS, ← eV, eF]
  have hs1 : sig1 t = t.G := by unfold sig1; rw [hO]; exact rgI_sg t.G
  refine ⟨hO, d1, fun v hv => ?_, hs, by rw [hl]; exact d4, by rw [eP, ee]; exact hT⟩
  rw [hO, hs1] at b3
  exact b3 v hv
end Go.Proofs.YtbiadennhnokhaaGreatDoor
