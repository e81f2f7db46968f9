import Derived.Test.YtimeilkelnljnaaGreatDoorRd
namespace Go.Proofs.YtimeilkelnljnaaGreatDoor
open Go.RowKit

set_option maxHeartbeats 3200000 in
set_option maxRecDepth 100000 in
theorem ref_derive29 (d : Dv) (x st : Sg) (u v : Value) (w : World) (hu : ∃ a n c, u = .slice a n c) (hs : SlR w v st.2.2.length (chs st.2.2)) (hf : Fit st.2.2) :
    Calls Tryz.prog 56 #[.agg #[.int .i64 d.1, .int .i64 d.2.1, .bool d.2.2], .agg #[.int .i64 x.1, .int .i64 x.2.1, u], .agg #[.int .i64 st.1, .int .i64 st.2.1, v]] w fun e w' =>
      ∃ v', e = .returned (.agg #[.int .i64 x.1, .int .i64 x.2.1, v']) ∧ w'.ownsRow w.heap.size 75 2 v' (derG d x st).2.2.length (chs (derG d x st).2.2) ∧ Below w.heap.size w w' := by
  obtain ⟨k, n, xl⟩ := x
  obtain ⟨k2, n2, l⟩ := st
  obtain ⟨ua, un, uc, rfl⟩ := hu
  dsimp only at hs hf ⊢
  obtain ⟨a, cap, rfl, hc, hm⟩ := hs.shape
  obtain ⟨i0, hi, iz0, iz1, iz2⟩ := info_parts (P := Tryz.prog) change_info
  obtain ⟨o, f, inv⟩ := d
  have HR := Lib.hid (show normS k n (l.map (mvC (readR (o, f, inv) k n))) = (derG (o, f, inv) (k, n, xl) (k2, n2, l)).2.2 from rfl)
  generalize (derG (o, f, inv) (k, n, xl) (k2, n2, l)).2.2 = res at HR ⊢
  have HS := Lib.hid hs
  have HF := Lib.hid hf
  have hln : l.length ≤ 1000000 := hf.1
  have h1 := OwnRow.fresh w #[.int .i64 o, .int .i64 f, .bool inv] 34
  have hb1 := (Below.refl w.heap.size w).alloc (Nat.le_refl _) (.cells #[.int .i64 o, .int .i64 f, .bool inv] 34)
  have hz1 : (w.alloc (.cells #[.int .i64 o, .int .i64 f, .bool inv] 34)).heap.size = w.heap.size + 1 := by simp
  generalize hW1 : w.alloc (.cells #[.int .i64 o, .int .i64 f, .bool inv] 34) = w1 at h1 hb1 hz1
  have h2 := OwnRow.fresh w1 #[.int .i64 k, .int .i64 n, .slice ua un uc] 37
  rw [hz1] at h2
  have h1 := h1.alloc (by omega) (.cells #[.int .i64 k, .int .i64 n, .slice ua un uc] 37)
  have hb2 := hb1.alloc hb1.size (.cells #[.int .i64 k, .int .i64 n, .slice ua un uc] 37)
  have hz2 : (w1.alloc (.cells #[.int .i64 k, .int .i64 n, .slice ua un uc] 37)).heap.size = w.heap.size + 1 + 1 := by simp [hz1]
  generalize hW2 : w1.alloc (.cells #[.int .i64 k, .int .i64 n, .slice ua un uc] 37) = w2 at h1 h2 hb2 hz2
  have h3 := OwnRow.fresh w2 #[.int .i64 k2, .int .i64 n2, .slice a l.length cap] 37
  rw [hz2] at h3
  have h1 := h1.alloc (by omega) (.cells #[.int .i64 k2, .int .i64 n2, .slice a l.length cap] 37)
  have h2 := h2.alloc (by omega) (.cells #[.int .i64 k2, .int .i64 n2, .slice a l.length cap] 37)
  have hb3 := hb2.alloc hb2.size (.cells #[.int .i64 k2, .int .i64 n2, .slice a l.length cap] 37)
  have hz3 : (w2.alloc (.cells #[.int .i64 k2, .int .i64 n2, .slice a l.length cap] 37)).heap.size = w.heap.size + 1 + 1 + 1 := by simp [hz2]
  generalize hW3 : w2.alloc (.cells #[.int .i64 k2, .int .i64 n2, .slice a l.length cap] 37) = w3 at h1 h2 h3 hb3 hz3
  have h4 := OwnRow.fresh w3 #[.int .i64 0, .int .i64 0, .slice none 0 0] 37
  rw [hz3] at h4
  have h1 := h1.alloc (by omega) (.cells #[.int .i64 0, .int .i64 0, .slice none 0 0] 37)
  have h2 := h2.alloc (by omega) (.cells #[.int .i64 0, .int .i64 0, .slice none 0 0] 37)
  have h3 := h3.alloc (by omega) (.cells #[.int .i64 0, .int .i64 0, .slice none 0 0] 37)
  have hb4 := hb3.alloc hb3.size (.cells #[.int .i64 0, .int .i64 0, .slice none 0 0] 37)
  have hz4 : (w3.alloc (.cells #[.int .i64 0, .int .i64 0, .slice none 0 0] 37)).heap.size = w.heap.size + 1 + 1 + 1 + 1 := by simp [hz3]
  generalize hW4 : w3.alloc (.cells #[.int .i64 0, .int .i64 0, .slice none 0 0] 37) = w4 at h1 h2 h3 h4 hb4 hz4
  have H1 := Lib.hid h1
  have H2 := Lib.hid h2
  have H3 := Lib.hid h3
  have H4 := Lib.hid h4
  have HB4 := Lib.hid hb4
  have HS4 := Lib.hid (hs.below hb4)
  have HO0 := Lib.hid (World.ownsRow_made w4 #[] 0 (Nat.le_refl _) (Nat.zero_le _) rfl : (w4.alloc (.cells #[] 75)).ownsRow w4.heap.size 75 2 (.slice (some ⟨w4.heap.size, 0, none⟩) 0 0) 0 [])
  have HB0 := Lib.hid ((Below.refl w4.heap.size w4).alloc (Nat.le_refl _) (.cells #[] 75))
  clear h1 h2 h3 h4 hb1 hb2 hb3 hb4 hs hf
  go_enter Tryz.func56, Tryz.ntmps56
  go_upto_region 1 with fail
  clear hW1 hW2 hW3 hW4
  clear hz1 hz2 hz3
  have hzz : w.heap.size + 1 + 1 + 1 < w4.heap.size := by omega
  clear hz4
  go_wp2_with fail
  go_loopw [7, 8] (fun o_ i wr => ∃ (j : Nat) (out : List Ch), j ≤ l.length ∧ i = .int .i64 j ∧ out.length ≤ j ∧ out = (l.take j).map (mvC (readR (o, f, inv) k n)) ∧ wr.ownsRow w4.heap.size 75 2 o_ out.length (chs out) ∧ Below w4.heap.size w4 wr)
    (fun _ i _ => l.length - (intOf i).toNat)
  case atStart => exact ⟨0, [], Nat.zero_le _, rfl, Nat.le_refl _, rfl, HO0.out, HB0.out⟩
  case round =>
    obtain ⟨j, out, hj, rfl, hol, hn, ho, hb⟩ := hrel
    obtain ⟨ao, co, rfl, hco, hmo⟩ := (SlR.of_own ho).shape
    have HO := Lib.hid ho
    have HB := Lib.hid hb
    have HN := Lib.hid hn
    clear ho hb hn HO0 HB0
    have c0 := (H1.out.below HB.out (by omega)).cell (j := 0) rfl
    have c1 := (H1.out.below HB.out (by omega)).cell (j := 1) rfl
    have c2 := (H1.out.below HB.out (by omega)).cell (j := 2) rfl
    have c3 := (H2.out.below HB.out (by omega)).cell (j := 0) rfl
    have c4 := (H2.out.below HB.out (by omega)).cell (j := 1) rfl
    have c5 := (H3.out.below HB.out (by omega)).cell (j := 2) rfl
    by_cases hlt : j < l.length
    · obtain ⟨b, o2, rfl, d0, d1⟩ := (HS4.out.below HB.out).ch hlt
      obtain ⟨b2, o22, he2, e1', -⟩ := HS4.out.ch hlt
      injection he2 with he2
      injection he2 with he3 he4 _
      subst he3 he4
      have hbl : b < w4.heap.size := cell_lt e1'
      have HN2 := Lib.hid (show (l.take (j + 1)).map (mvC (readR (o, f, inv) k n)) = (l.take j).map (mvC (readR (o, f, inv) k n)) ++ [(l[j].1, readR (o, f, inv) k n l[j].2)] by
        rw [List.take_succ_eq_append_getElem hlt, List.map_append]; rfl)
      have hfit : l[j].2.size ≤ maxLen := by
        have := HF.out.2 l[j] (List.getElem_mem hlt)
        unfold maxLen; omega
      generalize l[j] = c at d0 d1 hfit HN2 e1'
      obtain ⟨t', s'⟩ := c
      simp only at d0 d1 hfit HN2
      have HN3 := Lib.hid (show out ++ [(t', readR (o, f, inv) k n s')] = (l.take (j + 1)).map (mvC (readR (o, f, inv) k n)) by rw [HN2.out, ← HN.out])
      have HIV := Lib.hid (fun W => ref_Read29 (o, f, inv) k n s' W hfit)
      generalize readR (o, f, inv) k n s' = x at HIV HN3
      have q1 : (0 : Int) ≤ (j : Int) := by omega
      have q2 : (j : Int) < (l.length : Int) := by omega
      have hsz := HB.out.size
      have hnb : ∀ b' : Nat, b' < w4.heap.size → some b' ≠ (Value.slice ao out.length co).ownBlock := fun b' hb' e => by have := (HO.out.lt _ e.symm).1; omega
      have HNB := Lib.hid hnb
      clear HN2 e1' hnb q1 q2
      go_wp2_with fail
      go_region_held3 (fun w' => w'.cell? ⟨w.heap.size + 1 + 1, 2, none⟩ = some (.slice (some ⟨b, o2, none⟩) l.length cap) ∧ w'.cell? ⟨b, o2 + j * 2, none⟩ = some (.int .i64 t') ∧ w'.cell? ⟨b, o2 + j * 2 + 1, none⟩ = some (.string s') ∧
          w'.cell? ⟨w.heap.size, 0, none⟩ = some (.int .i64 o) ∧ w'.cell? ⟨w.heap.size, 1, none⟩ = some (.int .i64 f) ∧ w'.cell? ⟨w.heap.size, 2, none⟩ = some (.bool inv) ∧ w'.cell? ⟨w.heap.size + 1, 0, none⟩ = some (.int .i64 k) ∧ w'.cell? ⟨w.heap.size + 1, 1, none⟩ = some (.int .i64 n))
        (first | exact ⟨c5, d0, d1, c0, c1, c2, c3, c4⟩ | exact ⟨s0, s1, s2, s3, s4, s5, s6, s7⟩ | exact ⟨r0, r1, r2, r3, r4, r5, r6, r7⟩ | go_keep)
        (first
          | (go_at_call 15
             (with_reducible refine (HIV.out _).mono ?_)
             rintro e w8 ⟨rfl, hb8⟩
             have HB8 := Lib.hid (HB.out.drew.trans (hb8.mono HB.out.size))
             have HO8 := Lib.hid ((HO.out.drew).kept (row := none) (w' := w8) ⟨hb8.os, hb8.tape, hb8.output, hb8.size, fun i hi _ => hb8.block i hi⟩ (by cases ao with | none => exact .inl rfl | some ad => exact .inr (by simp [Value.ownBlock])))
             have s0 := (hb8.cell (p := ⟨w.heap.size + 1 + 1, 2, none⟩) (cell_lt c5)).trans c5
             have s1 := (hb8.cell (p := ⟨b, o2 + j * 2, none⟩) (cell_lt d0)).trans d0
             have s2 := (hb8.cell (p := ⟨b, o2 + j * 2 + 1, none⟩) (cell_lt d1)).trans d1
             have s3 := (hb8.cell (p := ⟨w.heap.size, 0, none⟩) (cell_lt c0)).trans c0
             have s4 := (hb8.cell (p := ⟨w.heap.size, 1, none⟩) (cell_lt c1)).trans c1
             have s5 := (hb8.cell (p := ⟨w.heap.size, 2, none⟩) (cell_lt c2)).trans c2
             have s6 := (hb8.cell (p := ⟨w.heap.size + 1, 0, none⟩) (cell_lt c3)).trans c3
             have s7 := (hb8.cell (p := ⟨w.heap.size + 1, 1, none⟩) (cell_lt c4)).trans c4
             have hsz8 := HB8.out.size
             clear hb8)
          | (refine step_append_lies _ (by rfl) _ _ _ (by rfl) w4.heap.size 75 i0 _ 2 24 Tryz.underlying35 hi iz0 iz1 iz2 rfl (by omega) (.slice ao out.length co) out.length (chs out) (by rfl) (by exact HO8.out.alloc _)
               ⟨w8.heap.size, 0, none⟩ 1 1 [.int .i64 t', .string x] (by rfl) (by rfl) (World.news_of_block (cs := #[.int .i64 t', .string x]) (t := 75) (fr := (0, 0)) (by exact heap_alloc_new w8 _)) (by simp [Value.oneCell'])
               (by omega) (by unfold maxLen; omega) (by omega) (by simp; omega) (w8.heap.size + 1) (by simp) ?_
             intro gg cap9 w9 hown1 hgrow hat hlt9
             have r0 := hgrow.cell (cell_alloc s0 (.cells #[.int .i64 t', .string x] 75)) (HNB.out (w.heap.size + 1 + 1) (by omega))
             have r1 := hgrow.cell (cell_alloc s1 (.cells #[.int .i64 t', .string x] 75)) (HNB.out b hbl)
             have r2 := hgrow.cell (cell_alloc s2 (.cells #[.int .i64 t', .string x] 75)) (HNB.out b hbl)
             have r3 := hgrow.cell (cell_alloc s3 (.cells #[.int .i64 t', .string x] 75)) (HNB.out w.heap.size (by omega))
             have r4 := hgrow.cell (cell_alloc s4 (.cells #[.int .i64 t', .string x] 75)) (HNB.out w.heap.size (by omega))
             have r5 := hgrow.cell (cell_alloc s5 (.cells #[.int .i64 t', .string x] 75)) (HNB.out w.heap.size (by omega))
             have r6 := hgrow.cell (cell_alloc s6 (.cells #[.int .i64 t', .string x] 75)) (HNB.out (w.heap.size + 1) (by omega))
             have r7 := hgrow.cell (cell_alloc s7 (.cells #[.int .i64 t', .string x] 75)) (HNB.out (w.heap.size + 1) (by omega))))
      go_wp2_with fail
      go_roundw
      case rel => exact ⟨j + 1, out ++ [(t', x)], by omega, by go_num, by simp; omega, HN3.out, by rw [chs_append]; simpa [chs, encC] using hown1, Below.grown (HB8.out.alloc HB8.out.size _) hgrow (by simp; omega) (fun q hq => (HO8.out.lt q hq).1)⟩
      case measure => simp [intOf]; omega
    · obtain rfl : j = l.length := by omega
      have HE := Lib.hid (show normS k n out = res by rw [HN.out, List.take_length]; exact HR.out)
      have HNM := Lib.hid (fun W (hW : Below wr.heap.size wr W) => ref_Normal k n (.slice ao out.length co) out W ((SlR.of_own HO.out).below hW) (by omega))
      rw [HE.out] at HNM
      have HX4 := Lib.hid (H4.out.below HB.out (by omega))
      have hsz := HB.out.size
      clear c0 c1 c2
      go_wp2_with fail
      go_region_held3 (fun w' => w'.cell? ⟨w.heap.size + 1, 0, none⟩ = some (.int .i64 k) ∧ w'.cell? ⟨w.heap.size + 1, 1, none⟩ = some (.int .i64 n))
        (first | exact ⟨c3, c4⟩ | exact ⟨s3, s4⟩ | (exact (have hq := ((HX28.out.setOther (b' := w.heap.size + 1 + 1 + 1) (by omega) 0 (.int .i64 k)).setOther (b' := w.heap.size + 1 + 1 + 1) (by omega) 1 (.int .i64 n)).setOther (b' := w.heap.size + 1 + 1 + 1) (by omega) 2 (.slice a8 res.length c8); ⟨hq.cell (j := 0) rfl, hq.cell (j := 1) rfl⟩)) | go_keep)
        (first
          | (go_at_call 81
             (with_reducible refine (HNM.out _ ?_).mono ?_)
             · exact below_drewN (Below.refl _ _) _
             rintro e w8 ⟨v8, rfl, ho8, hb8'⟩
             have hb8 := below_undrew hb8'
             have s3 := (hb8.cell (p := ⟨w.heap.size + 1, 0, none⟩) (cell_lt c3)).trans c3
             have s4 := (hb8.cell (p := ⟨w.heap.size + 1, 1, none⟩) (cell_lt c4)).trans c4
             have hx8 := HX4.out.below hb8 (by omega)
             have x0 := hx8.cell (j := 0) rfl
             have x1 := hx8.cell (j := 1) rfl
             have x2 := hx8.cell (j := 2) rfl
             have y0 := hx8.free (j := 0) (by simp)
             have y1 := hx8.free (j := 1) (by simp)
             have y2 := hx8.free (j := 2) (by simp)
             obtain ⟨a8, c8, rfl, -, -⟩ := (SlR.of_own ho8).shape
             have HX28 := Lib.hid ((H2.out.below HB.out (by omega)).below hb8 (by omega))
             have HB8 := Lib.hid hb8
             have HO8 := Lib.hid ho8
             clear hb8' hb8 ho8 hx8))
      all_goals go_wp2_with fail
      all_goals try (simp only [Exit.then]; apply_assumption; go_wp2_with fail)
      have hdr : wr.drew.heap.size = wr.heap.size := rfl
      obtain ⟨g0, g1, g2⟩ := set3 x0 x1 x2 (.int .i64 k) (.int .i64 n) (.slice a8 res.length c8)
      refine bodyPost_ret (v := .agg #[.int .i64 k, .int .i64 n, .slice a8 res.length c8]) (by simp [results, Tryz.results56, go_sem, g0, g1, g2]) rfl ?_
      exact ⟨_, rfl, ownsRow_base (ownsRow_set3 HO8.out (by omega) _ _ _) (by omega), below_set3' (HB4.out.trans ((HB.out.trans (HB8.out.mono HB.out.size)).mono HB4.out.size)) (by omega) _ _ _⟩
end Go.Proofs.YtimeilkelnljnaaGreatDoor
