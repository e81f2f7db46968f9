import Derived.Test.YtlbcfmhpkcpmaaaGreatDoorRefQ
namespace Go.Proofs.YtlbcfmhpkcpmaaaGreatDoor
open Go.RowKit

def btL (f : ByteArray → ByteArray) (l : List Ch) : List Ch := l.map fun c => (c.1, f c.2)
theorem btL_each (f : ByteArray → ByteArray) (l : List Ch) : eachL (btG f) l = btL f l := by
  unfold eachL btL
  induction l with
  | nil => rfl
  | cons c l ih => rw [List.filterMap_cons, List.map_cons, ih]; rfl
theorem btL_snoc (f : ByteArray → ByteArray) (l : List Ch) (j : Nat) (h : j < l.length) : btL f (l.take (j + 1)) = btL f (l.take j) ++ [(l[j].1, f l[j].2)] := by
  rw [List.take_succ_eq_append_getElem h]
  unfold btL
  rw [List.map_append]; rfl
theorem slR_err {n : Int} (h : vt 0 n = true) (from_ width : Int) (he : (slR (vi 0 n) from_ width).2 ≠ 0) : (slR (vi 0 n) from_ width).2 = 2 := by
  have h1 := vv_vi h
  unfold vv at h1
  rw [if_pos rfl, Bool.and_eq_true, Bool.and_eq_true] at h1
  unfold slR at he ⊢
  rw [if_neg (by rw [h1.2.1]; simp)] at he ⊢
  split
  · rfl
  · rename_i h2
    rw [if_neg h2] at he
    exact absurd rfl he
theorem bvi_size {n : Int} (h : vt 0 n = true) : (vi 0 n).size ≤ maxLen := by have := vv_size (vv_vi h); unfold maxLen; omega


set_option maxHeartbeats 3200000 in
set_option maxRecDepth 100000 in
theorem ref_sSlice (k n : Int) (v : Value) (l : List Ch) (from_ width : Int) (w : World) (hs : SlR w v l.length (chs l)) (hf : Fit l) :
    Calls Tryz.prog 38 #[.agg #[.int .i64 k, .int .i64 n, v], .int .i64 from_, .int .i64 width] w (SigPost (sliceR k n l from_ width) w) := by
  obtain ⟨a, cap, rfl, hc, hm⟩ := hs.shape
  have hst := EdSt.start w k n a l.length cap 24
  have HV := Lib.hid (ref_sValid k n _ l _ (hs.below hst.b) hf)
  have HST := Lib.hid hst
  have HS := Lib.hid hs
  have HF := Lib.hid hf
  unfold maxLen at hm
  clear hs hf hst
  cases hv : sv k n l
  · have HR := Lib.hid (show sliceR k n l from_ width = ((0, 0, []), 1) by unfold sliceR; rw [if_pos hv])
    rw [hv] at HV
    clear hv
    go_enter Tryz.func38, Tryz.ntmps38
    go_wp2_with fail
    refine HV.out.mono ?_
    rintro e w1 ⟨rfl, hb⟩
    have H1 := Lib.hid (HST.out.later hb (by simp))
    clear hb
    obtain ⟨⟨c0, c1, c2⟩, ⟨p0, p1, p2⟩, ⟨q0, q1, q2⟩⟩ := (H1.out).facts
    go_wp2_with fail
    obtain ⟨⟨e0, e1, e2⟩, hbb⟩ := (H1.out).fin (.int .i64 0) (.int .i64 0) (.slice none 0 0)
    refine bodyPost_ret (v := .tuple #[.agg #[.int .i64 0, .int .i64 0, .slice none 0 0], .int .i64 1]) (by simp [results, Tryz.results38, go_sem, e0, e1, e2]) rfl ?_
    rw [HR.out]
    exact SigPost.zero 1 hbb
  have hll := (sv_iff.1 hv).2.1
  have HVT := Lib.hid (sv_iff.1 hv).1
  by_cases hk : k ≠ 0
  · have HR := Lib.hid (show sliceR k n l from_ width = ((0, 0, []), 7) by unfold sliceR; rw [if_neg (by rw [hv]; simp), if_pos hk])
    have hkb : (k != 0) = true := by rw [bne_iff_ne]; exact hk
    rw [hv] at HV
    clear hv hk
    go_enter Tryz.func38, Tryz.ntmps38
    go_wp2_with fail
    refine HV.out.mono ?_
    rintro e w1 ⟨rfl, hb⟩
    have H1 := Lib.hid (HST.out.later hb (by simp))
    clear hb
    obtain ⟨⟨c0, c1, c2⟩, ⟨p0, p1, p2⟩, ⟨q0, q1, q2⟩⟩ := (H1.out).facts
    go_wp2_with fail
    obtain ⟨⟨e0, e1, e2⟩, hbb⟩ := (H1.out).fin (.int .i64 0) (.int .i64 0) (.slice none 0 0)
    refine bodyPost_ret (v := .tuple #[.agg #[.int .i64 0, .int .i64 0, .slice none 0 0], .int .i64 7]) (by simp [results, Tryz.results38, go_sem, e0, e1, e2]) rfl ?_
    rw [HR.out]
    exact SigPost.zero 7 hbb
  obtain rfl : k = 0 := Classical.not_not.1 hk
  have HR1 := Lib.hid (show sliceR 0 n l from_ width = if (slR (vi 0 n) from_ width).2 ≠ 0 then ((0, 0, []), 2) else madeR 0 width (eachL (btG (slB from_ width)) l) by unfold sliceR; rw [if_neg (by rw [hv]; simp), if_neg hk])
  have HIN := Lib.hid (fun W => ref_Slice (vi 0 n) from_ width W (bvi_size HVT.out))
  have HER := Lib.hid (slR_err HVT.out from_ width)
  have HSL := Lib.hid (fun (s : ByteArray) (hs : s.size ≤ maxLen) W => ref_Slice s from_ width W hs)
  rw [hv] at HV
  clear hv hk
  generalize hg : slR (vi 0 n) from_ width = g at HIN HR1 HER
  obtain ⟨gs, ge⟩ := g
  clear hg
  obtain ⟨i0, hi, iz0, iz1, iz2⟩ := info_parts (P := Tryz.prog) change_info
  go_enter Tryz.func38, Tryz.ntmps38
  go_wp2_with fail
  refine HV.out.mono ?_
  rintro e w0 ⟨rfl, hb⟩
  have H0 := Lib.hid (HST.out.later hb (by simp))
  have hz0 := H0.out.z
  clear hb HST
  obtain ⟨⟨c0, c1, c2⟩, ⟨p0, p1, p2⟩, ⟨q0, q1, q2⟩⟩ := (H0.out).facts
  go_wp2_with fail
  refine (ref_vInitial 0 n _).mono ?_
  rintro e w1 ⟨rfl, hb⟩
  have H1 := Lib.hid (H0.out.later hb hz0)
  have hz1 := H1.out.z
  clear hb H0 hz0
  clear c0 c1 c2 p0 p1 p2 q0 q1 q2
  obtain ⟨⟨c0, c1, c2⟩, ⟨p0, p1, p2⟩, ⟨q0, q1, q2⟩⟩ := (H1.out).facts
  go_wp2_with fail
  refine (HIN.out _).mono ?_
  rintro e w2 ⟨rfl, hb⟩
  have H2 := Lib.hid (H1.out.later hb hz1)
  have hz2 := H2.out.z
  have HS2 := Lib.hid (HS.out.below H2.out.b)
  clear hb H1 hz1
  clear c0 c1 c2 p0 p1 p2 q0 q1 q2
  obtain ⟨⟨c0, c1, c2⟩, ⟨p0, p1, p2⟩, ⟨q0, q1, q2⟩⟩ := (H2.out).facts
  by_cases he : ge = 0
  · have HRR := Lib.hid (show madeR 0 width (btL (slB from_ width) l) = sliceR 0 n l from_ width by rw [HR1.out, if_neg (by simpa using he), btL_each])
    have heb : (ge != 0) = false := by rw [bne_eq_false_iff_eq]; exact he
    have HO0 := Lib.hid (World.ownsRow_made w2 #[] 0 (Nat.le_refl _) (Nat.zero_le _) rfl : (w2.alloc (.cells #[] 36)).ownsRow w2.heap.size 36 2 (.slice (some ⟨w2.heap.size, 0, none⟩) 0 0) 0 [])
    have HB0 := Lib.hid ((Below.refl w2.heap.size w2).alloc (Nat.le_refl _) (.cells #[] 36))
    clear he
    clear c0 c1 c2 p0 p1 p2 q0 q1 q2
    have p2 := H2.out.s.cell (j := 2) rfl
    go_wp2_with fail
    clear p2
    go_loopw [10, 11] (fun o_ i wr => ∃ (j : Nat) (out : List Ch), j ≤ l.length ∧ i = .int .i64 j ∧ out.length ≤ j ∧ out = btL (slB from_ width) (l.take j) ∧ wr.ownsRow w2.heap.size 36 2 o_ out.length (chs out) ∧ Below w2.heap.size w2 wr)
      (fun _ i _ => l.length - (intOf i).toNat)
    case atStart => exact ⟨0, [], Nat.zero_le _, rfl, Nat.le_refl _, rfl, HO0.out, HB0.out⟩
    case round =>
      obtain ⟨j, out, hj, rfl, hol, hn, ho, hb⟩ := hrel
      obtain ⟨ao, co, rfl, hco, hmo⟩ := (SlR.of_own ho).shape
      have H4 := Lib.hid (H2.out.later hb hz2)
      have HO := Lib.hid ho
      have HB := Lib.hid hb
      have HN := Lib.hid hn
      clear ho hb hn HO0 HB0
      obtain ⟨⟨c0, c1, c2⟩, ⟨p0, p1, p2⟩, ⟨q0, q1, q2⟩⟩ := (H4.out).facts
      by_cases hlt : j < l.length
      · obtain ⟨b, o, rfl, d0, d1⟩ := (HS2.out.below HB.out).ch hlt
        have HN2 := Lib.hid (show btL (slB from_ width) (l.take (j + 1)) = btL (slB from_ width) (l.take j) ++ [(l[j].1, slB from_ width l[j].2)] from btL_snoc _ l j hlt)
        have hfit : l[j].2.size ≤ maxLen := by
          have := HF.out.2 l[j] (List.getElem_mem hlt)
          unfold maxLen; omega
        generalize l[j] = c at d0 d1 hfit HN2
        obtain ⟨t', s'⟩ := c
        simp only at d0 d1 hfit HN2
        have HSC := Lib.hid (fun W => HSL.out s' hfit W)
        have HN3 := Lib.hid (show out ++ [(t', slB from_ width s')] = btL (slB from_ width) (l.take (j + 1)) by rw [HN2.out, ← HN.out])
        have hsb : slB from_ width s' = (slR s' from_ width).1 := rfl
        rw [hsb] at HN3
        generalize slR s' from_ width = q at HSC HN3
        obtain ⟨qs, qe⟩ := q
        dsimp only at HSC HN3
        clear hsb HN2
        go_wp2_with fail
        refine (HSC.out _).mono ?_
        rintro e w8 ⟨rfl, hb8⟩
        have HB8 := Lib.hid (HB.out.trans (hb8.mono HB.out.size))
        have HO8 := Lib.hid (HO.out.kept (row := none) (w' := w8) ⟨hb8.os, hb8.tape, hb8.output, hb8.size, fun i hi _ => hb8.block i hi⟩ (by cases ao with | none => exact .inl rfl | some ad => exact .inr (by simp [Value.ownBlock])))
        have x2 := (hb8.cell (p := ⟨w.heap.size, 2, none⟩) (cell_lt c0)).trans c2
        have x0 := (hb8.cell (p := ⟨b, o + j * 2, none⟩) (cell_lt d0)).trans d0
        clear hb8 d0 d1
        clear c0 c1 c2 p0 p1 p2 q0 q1 q2
        go_wp2_with (at_builtin; refine wpList_append_own _ rfl _ _ 22 rfl w2.heap.size 36 i0 (.agg #[.int .i64 0, .string ⟨#[]⟩]) 2 24 Tryz.underlying22 hi iz0 iz1 iz2 rfl (by decide) _ _ _ rfl (World.ownsRow.alloc (by exact HO8.out) _) ⟨w8.heap.size, 0, none⟩ 1 1 [.int .i64 (t'), .string (qs)] rfl rfl (World.news_of_block (cs := #[.int .i64 (t'), .string (qs)]) (t := 36) (fr := (0, 0)) (by exact heap_alloc_new w8 _)) (by simp [Value.oneCell']) (by unfold maxLen; omega) (by omega) (by have := HB8.out.size; simp; omega) ?_)
        intro v7 w7 ho7 hg7 _
        obtain ⟨a7, c7, rfl, -, -⟩ := (SlR.of_own ho7).shape
        have hb7 : Below w2.heap.size w2 w7 := (HB8.out.alloc HB8.out.size _).grown hg7 (by have := HB8.out.size; simp; omega) (fun q hq => (HO8.out.lt q hq).1)
        have HO7 := Lib.hid ho7
        have HB7 := Lib.hid hb7
        clear ho7 hg7 hb7
        go_wp2_with fail
        go_roundw
        case rel => exact ⟨j + 1, out ++ [(t', qs)], by omega, by go_num, by simp; omega, HN3.out, by have := HO7.out; rw [chs_append]; simpa [chs, encC] using this, HB7.out⟩
        case measure => simp [intOf]; omega
      · obtain rfl : j = l.length := by omega
        have HE := Lib.hid (show madeR 0 width out = sliceR 0 n l from_ width by rw [HN.out, List.take_length]; exact HRR.out)
        go_wp2_with fail
        refine (ref_build 0 width _ out _ (SlR.of_own HO.out) (by omega)).mono ?_
        rintro e w10 ⟨v10, rfl, ho10, hb10⟩
        obtain ⟨a10, c10, rfl, -, -⟩ := (SlR.of_own ho10).shape
        have H10 := Lib.hid (H2.out.later (HB.out.trans (hb10.mono HB.out.size)) hz2)
        have HO10 := Lib.hid ho10
        have hsz := HB.out.size
        clear ho10 hb10 c0 c1 c2 p0 p1 p2 q0 q1 q2
        obtain ⟨⟨c0, c1, c2⟩, ⟨p0, p1, p2⟩, ⟨q0, q1, q2⟩⟩ := (H10.out).facts
        go_wp2_with fail
        obtain ⟨⟨g0, g1, g2⟩, hbb⟩ := H10.out.fin (.int .i64 (madeR 0 width out).1.1) (.int .i64 (madeR 0 width out).1.2.1) (.slice a10 (madeR 0 width out).1.2.2.length c10)
        refine bodyPost_ret (v := .tuple #[.agg #[.int .i64 (madeR 0 width out).1.1, .int .i64 (madeR 0 width out).1.2.1, .slice a10 (madeR 0 width out).1.2.2.length c10], .int .i64 (madeR 0 width out).2]) (by simp [results, Tryz.results38, go_sem, g0, g1, g2]) rfl ?_
        rw [← HE.out]
        exact ⟨_, rfl, ownsRow_base (ownsRow_set3 HO10.out (by omega) _ _ _) (by omega), hbb⟩
  · have HRR := Lib.hid (show sliceR 0 n l from_ width = ((0, 0, []), 2) by rw [HR1.out, if_pos he])
    have heb : (ge != 0) = true := by rw [bne_iff_ne]; exact he
    obtain rfl : ge = 2 := HER.out he
    clear he
    go_wp2_with fail
    obtain ⟨⟨e0, e1, e2⟩, hbb⟩ := (H2.out).fin (.int .i64 0) (.int .i64 0) (.slice none 0 0)
    refine bodyPost_ret (v := .tuple #[.agg #[.int .i64 0, .int .i64 0, .slice none 0 0], .int .i64 2]) (by simp [results, Tryz.results38, go_sem, e0, e1, e2]) rfl ?_
    rw [HRR.out]
    exact SigPost.zero 2 hbb
end Go.Proofs.YtlbcfmhpkcpmaaaGreatDoor
