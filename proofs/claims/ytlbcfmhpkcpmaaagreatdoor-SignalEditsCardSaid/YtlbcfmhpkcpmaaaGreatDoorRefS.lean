import Derived.Test.YtlbcfmhpkcpmaaaGreatDoorRefR
namespace Go.Proofs.YtlbcfmhpkcpmaaaGreatDoor
open Go.RowKit

set_option maxHeartbeats 3200000 in
set_option maxRecDepth 100000 in
theorem ref_Invert (k n : Int) (v : Value) (l : List Ch) (w : World) (hs : SlR w v l.length (chs l)) (hf : Fit l) :
    Calls Tryz.prog 40 #[.agg #[.int .i64 k, .int .i64 n, v]] w (SigPost (invR k n l) w) := by
  obtain ⟨a, cap, rfl, hc, hm⟩ := hs.shape
  have hst := EdSt.start w k n a l.length cap 24
  have HV := Lib.hid (ref_sValid k n _ l _ (hs.below hst.b) hf)
  have HST := Lib.hid hst
  have HS := Lib.hid hs
  have HF := Lib.hid hf
  unfold maxLen at hm
  clear hs hf hst
  cases hv : sv k n l
  · have HR := Lib.hid (show invR k n l = ((0, 0, []), 1) by unfold invR; rw [if_pos hv])
    rw [hv] at HV
    clear hv
    go_enter Tryz.func40, Tryz.ntmps40
    go_wp2_with fail
    refine HV.out.mono ?_
    rintro e w1 ⟨rfl, hb⟩
    have H1 := Lib.hid (HST.out.later hb (by simp))
    clear hb
    obtain ⟨⟨c0, c1, c2⟩, ⟨p0, p1, p2⟩, ⟨q0, q1, q2⟩⟩ := (H1.out).facts
    go_wp2_with fail
    obtain ⟨⟨e0, e1, e2⟩, hbb⟩ := (H1.out).fin (.int .i64 0) (.int .i64 0) (.slice none 0 0)
    refine bodyPost_ret (v := .tuple #[.agg #[.int .i64 0, .int .i64 0, .slice none 0 0], .int .i64 1]) (by simp [results, Tryz.results40, go_sem, e0, e1, e2]) rfl ?_
    rw [HR.out]
    exact SigPost.zero 1 hbb
  have hll := (sv_iff.1 hv).2.1
  by_cases hk : k ≠ 0
  · have HR := Lib.hid (show invR k n l = ((0, 0, []), 7) by unfold invR; rw [if_neg (by rw [hv]; simp), if_pos hk])
    have hkb : (k != 0) = true := by rw [bne_iff_ne]; exact hk
    rw [hv] at HV
    clear hv hk
    go_enter Tryz.func40, Tryz.ntmps40
    go_wp2_with fail
    refine HV.out.mono ?_
    rintro e w1 ⟨rfl, hb⟩
    have H1 := Lib.hid (HST.out.later hb (by simp))
    clear hb
    obtain ⟨⟨c0, c1, c2⟩, ⟨p0, p1, p2⟩, ⟨q0, q1, q2⟩⟩ := (H1.out).facts
    go_wp2_with fail
    obtain ⟨⟨e0, e1, e2⟩, hbb⟩ := (H1.out).fin (.int .i64 0) (.int .i64 0) (.slice none 0 0)
    refine bodyPost_ret (v := .tuple #[.agg #[.int .i64 0, .int .i64 0, .slice none 0 0], .int .i64 7]) (by simp [results, Tryz.results40, go_sem, e0, e1, e2]) rfl ?_
    rw [HR.out]
    exact SigPost.zero 7 hbb
  obtain rfl : k = 0 := Classical.not_not.1 hk
  have HRR := Lib.hid (show madeR 0 n (btL bvInv l) = invR 0 n l by unfold invR; rw [if_neg (by rw [hv]; simp), if_neg hk, btL_each])
  rw [hv] at HV
  clear hv hk
  obtain ⟨i0, hi, iz0, iz1, iz2⟩ := info_parts (P := Tryz.prog) change_info
  go_enter Tryz.func40, Tryz.ntmps40
  go_wp2_with fail
  refine HV.out.mono ?_
  rintro e w2 ⟨rfl, hb⟩
  have H2 := Lib.hid (HST.out.later hb (by simp))
  have hz2 := H2.out.z
  have HS2 := Lib.hid (HS.out.below H2.out.b)
  have HO0 := Lib.hid (World.ownsRow_made w2 #[] 0 (Nat.le_refl _) (Nat.zero_le _) rfl : (w2.alloc (.cells #[] 36)).ownsRow w2.heap.size 36 2 (.slice (some ⟨w2.heap.size, 0, none⟩) 0 0) 0 [])
  have HB0 := Lib.hid ((Below.refl w2.heap.size w2).alloc (Nat.le_refl _) (.cells #[] 36))
  clear hb HST
  have c0 := H2.out.s.cell (j := 0) rfl
  go_wp2_with fail
  clear c0
  go_loopw [4, 5] (fun o_ i wr => ∃ (j : Nat) (out : List Ch), j ≤ l.length ∧ i = .int .i64 j ∧ out.length ≤ j ∧ out = btL bvInv (l.take j) ∧ wr.ownsRow w2.heap.size 36 2 o_ out.length (chs out) ∧ Below w2.heap.size w2 wr)
    (fun _ i _ => l.length - (intOf i).toNat)
  case atStart => exact ⟨0, [], Nat.zero_le _, rfl, Nat.le_refl _, rfl, HO0.out, HB0.out⟩
  case round =>
    obtain ⟨j, out, hj, rfl, hol, hn, ho, hb⟩ := hrel
    obtain ⟨ao, co, rfl, hco, hmo⟩ := (SlR.of_own ho).shape
    have H4 := Lib.hid (H2.out.later hb hz2)
    have HO := Lib.hid ho
    have HB := Lib.hid hb
    have HN := Lib.hid hn
    clear ho hb hn HO0 HB0
    obtain ⟨⟨c0, c1, c2⟩, ⟨p0, p1, p2⟩, ⟨q0, q1, q2⟩⟩ := (H4.out).facts
    by_cases hlt : j < l.length
    · obtain ⟨b, o, rfl, d0, d1⟩ := (HS2.out.below HB.out).ch hlt
      obtain ⟨b2, o2, he2, e1', -⟩ := HS2.out.ch hlt
      injection he2 with he2
      injection he2 with he3 he4 _
      subst he3 he4
      have hbl : b < w2.heap.size := cell_lt e1'
      have HN2 := Lib.hid (show btL bvInv (l.take (j + 1)) = btL bvInv (l.take j) ++ [(l[j].1, bvInv l[j].2)] from btL_snoc _ l j hlt)
      have hfit : l[j].2.size ≤ maxLen := by
        have := HF.out.2 l[j] (List.getElem_mem hlt)
        unfold maxLen; omega
      generalize l[j] = c at d0 d1 hfit HN2 e1'
      obtain ⟨t', s'⟩ := c
      simp only at d0 d1 hfit HN2
      have HN3 := Lib.hid (show out ++ [(t', bvInv s')] = btL bvInv (l.take (j + 1)) by rw [HN2.out, ← HN.out])
      have HIV := Lib.hid (fun W => ref_Inverse s' W hfit)
      generalize bvInv s' = x at HIV HN3
      have q1 : (0 : Int) ≤ (j : Int) := by omega
      have q2 : (j : Int) < (l.length : Int) := by omega
      have hsz := HB.out.size
      have hnb : ∀ b' : Nat, b' < w2.heap.size → some b' ≠ (Value.slice ao out.length co).ownBlock := fun b' hb' e => by have := (HO.out.lt _ e.symm).1; omega
      have HNB := Lib.hid hnb
      clear HN2 e1' hnb p0 p1 p2 q0 q1
      go_wp2_with fail
      go_region_held3 (fun w' => w'.cell? ⟨w.heap.size, 2, none⟩ = some (.slice (some ⟨b, o, none⟩) l.length cap) ∧ w'.cell? ⟨b, o + j * 2, none⟩ = some (.int .i64 t') ∧ w'.cell? ⟨b, o + j * 2 + 1, none⟩ = some (.string s'))
        (first | exact ⟨s0, s1, s2⟩ | exact ⟨r0, r1, r2⟩ | go_keep)
        (first
          | (go_at_call 67
             (with_reducible refine (HIV.out _).mono ?_)
             rintro e w8 ⟨rfl, hb8⟩
             have HB8 := Lib.hid (HB.out.drew.trans (hb8.mono HB.out.size))
             have HO8 := Lib.hid ((HO.out.drew).kept (row := none) (w' := w8) ⟨hb8.os, hb8.tape, hb8.output, hb8.size, fun i hi _ => hb8.block i hi⟩ (by cases ao with | none => exact .inl rfl | some ad => exact .inr (by simp [Value.ownBlock])))
             have s0 := (hb8.cell (p := ⟨w.heap.size, 2, none⟩) (cell_lt c2)).trans c2
             have s1 := (hb8.cell (p := ⟨b, o + j * 2, none⟩) (cell_lt d0)).trans d0
             have s2 := (hb8.cell (p := ⟨b, o + j * 2 + 1, none⟩) (cell_lt d1)).trans d1
             have hsz8 := HB8.out.size
             clear hb8)
          | (refine step_append_lies _ (by rfl) _ _ _ (by rfl) w2.heap.size 36 i0 _ 2 24 Tryz.underlying22 hi iz0 iz1 iz2 rfl (by omega) (.slice ao out.length co) out.length (chs out) (by rfl) (by exact HO8.out.alloc _)
               ⟨w8.heap.size, 0, none⟩ 1 1 [.int .i64 t', .string x] (by rfl) (by rfl) (World.news_of_block (cs := #[.int .i64 t', .string x]) (t := 36) (fr := (0, 0)) (by exact heap_alloc_new w8 _)) (by simp [Value.oneCell'])
               (by omega) (by unfold maxLen; omega) (by omega) (by simp; omega) (w8.heap.size + 1) (by simp) ?_
             intro gg cap9 w9 hown1 hgrow hat hlt9
             have r0 := hgrow.cell (cell_alloc s0 (.cells #[.int .i64 t', .string x] 36)) (HNB.out w.heap.size (by omega))
             have r1 := hgrow.cell (cell_alloc s1 (.cells #[.int .i64 t', .string x] 36)) (HNB.out b hbl)
             have r2 := hgrow.cell (cell_alloc s2 (.cells #[.int .i64 t', .string x] 36)) (HNB.out b hbl)))
      go_wp2_with fail
      go_roundw
      case rel => exact ⟨j + 1, out ++ [(t', x)], by omega, by go_num, by simp; omega, HN3.out, by rw [chs_append]; simpa [chs, encC] using hown1, Below.grown (HB8.out.alloc HB8.out.size _) hgrow (by simp; omega) (fun q hq => (HO8.out.lt q hq).1)⟩
      case measure => simp [intOf]; omega
    · obtain rfl : j = l.length := by omega
      have HE := Lib.hid (show madeR 0 n out = invR 0 n l by rw [HN.out, List.take_length]; exact HRR.out)
      go_wp2_with fail
      refine (ref_build 0 n _ out _ (SlR.of_own HO.out) (by omega)).mono ?_
      rintro e w10 ⟨v10, rfl, ho10, hb10⟩
      obtain ⟨a10, c10, rfl, -, -⟩ := (SlR.of_own ho10).shape
      have H10 := Lib.hid (H2.out.later (HB.out.trans (hb10.mono HB.out.size)) hz2)
      have HO10 := Lib.hid ho10
      have hsz := HB.out.size
      clear ho10 hb10 c0 c1 c2 p0 p1 p2 q0 q1 q2
      obtain ⟨⟨c0, c1, c2⟩, ⟨p0, p1, p2⟩, ⟨q0, q1, q2⟩⟩ := (H10.out).facts
      go_wp2_with fail
      obtain ⟨⟨g0, g1, g2⟩, hbb⟩ := H10.out.fin (.int .i64 (madeR 0 n out).1.1) (.int .i64 (madeR 0 n out).1.2.1) (.slice a10 (madeR 0 n out).1.2.2.length c10)
      refine bodyPost_ret (v := .tuple #[.agg #[.int .i64 (madeR 0 n out).1.1, .int .i64 (madeR 0 n out).1.2.1, .slice a10 (madeR 0 n out).1.2.2.length c10], .int .i64 (madeR 0 n out).2]) (by simp [results, Tryz.results40, go_sem, g0, g1, g2]) rfl ?_
      rw [← HE.out]
      exact ⟨_, rfl, ownsRow_base (ownsRow_set3 HO10.out (by omega) _ _ _) (by omega), hbb⟩
end Go.Proofs.YtlbcfmhpkcpmaaaGreatDoor
