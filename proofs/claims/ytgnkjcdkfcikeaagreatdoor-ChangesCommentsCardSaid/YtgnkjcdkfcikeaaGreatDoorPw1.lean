import Derived.Test.YtgnkjcdkfcikeaaGreatDoorPs
namespace Go.Proofs.YtgnkjcdkfcikeaaGreatDoor
open Go.RowKit
set_option linter.unusedSimpArgs false

set_option maxHeartbeats 800000 in
set_option maxRecDepth 100000 in
theorem ps_problem (c : PC) (i : Int) (s : PS) (vo vr : Value) (e : Int) (w : Wd) (W : World) (h : ParX c i s vo vr W) (hl : s.wrong.length ≤ 1000000) :
    Calls Tryz.prog 33 #[.pointer (some ⟨c.B, 0, none⟩), .int .i64 e, wdV w] W (PPost c i (s.prob e w)) := by
  obtain ⟨tx, o1, o2, o3⟩ := w
  obtain ⟨i0, hi, iz0, iz1, iz2⟩ := info_parts (P := Tryz.prog) prb_info
  obtain ⟨ar, cr, rfl, -, -⟩ := (SlR.of_own h.r).shape
  have hal : Below W.heap.size W (W.alloc (.cells #[.string (bsB tx), .int .i64 o1, .int .i64 o2, .int .i64 o3] 39)) := (Below.refl _ _).alloc (Nat.le_refl _) _
  have hx := OwnRow.fresh W #[.string (bsB tx), .int .i64 o1, .int .i64 o2, .int .i64 o3] 39
  have hz : W.heap.size < (W.alloc (.cells #[.string (bsB tx), .int .i64 o1, .int .i64 o2, .int .i64 o3] 39)).heap.size := by simp
  have H := Lib.hid (h.later hal)
  generalize hw1 : W.alloc (.cells #[.string (bsB tx), .int .i64 o1, .int .i64 o2, .int .i64 o3] 39) = w1 at *
  have c8 := H.out.row.cell (j := 8) rfl
  have x1 := hx.cell (j := 1) rfl
  have x2 := hx.cell (j := 2) rfl
  have x3 := hx.cell (j := 3) rfl
  have hB := h.lo
  obtain ⟨hB1, hB2⟩ := hB
  have hbs := H.out.b.size
  have HRL := Lib.hid h.r.lt
  have hal2 : Below w1.heap.size w1 (w1.drew.alloc (.cells #[.int .i64 e, .int .i64 o1, .int .i64 o2, .int .i64 o3] 42)) := ((Below.refl _ _).drew).alloc (Nat.le_refl _) _
  have HA := Lib.hid (H.out.later hal2)
  have HXA := Lib.hid (hx.below hal2 hz)
  have hz2 : W.heap.size < (w1.drew.alloc (.cells #[.int .i64 e, .int .i64 o1, .int .i64 o2, .int .i64 o3] 42)).heap.size := by have := hal2.size; omega
  have a8 := HA.out.row.cell (j := 8) rfl
  have a1 := HXA.out.cell (j := 1) rfl
  have a2 := HXA.out.cell (j := 2) rfl
  have a3 := HXA.out.cell (j := 3) rfl
  have hne : W.heap.size ≠ c.B := by omega
  clear h hal hx hal2
  go_enter Tryz.func33, Tryz.ntmps33
  go_wp2_with fail
  refine wp_region_held_drew (S := (fun w' => w'.cell? ⟨W.heap.size, 1, none⟩ = some (.int .i64 o1) ∧ w'.cell? ⟨W.heap.size, 2, none⟩ = some (.int .i64 o2) ∧ w'.cell? ⟨W.heap.size, 3, none⟩ = some (.int .i64 o3))) (by kernel_rfl) ⟨x1, x2, x3⟩ (fun hHeld => ?_)
  refine wpAnyH_take (i := 0) (v := ?_) rfl (by kernel_rfl) (by kernel_rfl) (by kernel_rfl) (fun _ _ _ h => h) (Or.inl ⟨by rfl, ?_⟩) hHeld ?_
  rotate_left
  · intro w hSw
    (try dsimp only at hSw)
    go_simp
    all_goals with_reducible rfl
  simp only [Act.put, List.getElem_toArray, List.getElem_cons_succ, List.getElem_cons_zero, List.setIfInBounds_toArray, List.set_cons_zero, List.set_cons_succ]
  refine wpAnyH_take (i := 1) (v := ?_) rfl (by kernel_rfl) (by kernel_rfl) (by kernel_rfl) (fun _ _ _ h => h) (Or.inl ⟨by rfl, ?_⟩) hHeld ?_
  rotate_left
  · intro w hSw
    (try dsimp only at hSw)
    go_simp
    all_goals with_reducible rfl
  simp only [Act.put, List.getElem_toArray, List.getElem_cons_succ, List.getElem_cons_zero, List.setIfInBounds_toArray, List.set_cons_zero, List.set_cons_succ]
  refine wpAnyH_take (i := 2) (v := ?_) rfl (by kernel_rfl) (by kernel_rfl) (by kernel_rfl) (fun _ _ _ h => h) (Or.inl ⟨by rfl, ?_⟩) hHeld ?_
  rotate_left
  · intro w hSw
    (try dsimp only at hSw)
    go_simp
    all_goals with_reducible rfl
  simp only [Act.put, List.getElem_toArray, List.getElem_cons_succ, List.getElem_cons_zero, List.setIfInBounds_toArray, List.set_cons_zero, List.set_cons_succ]
  refine wpAnyH_take (i := 3) (v := ?_) rfl (by kernel_rfl) (by kernel_rfl) (by kernel_rfl) (fun _ _ _ h => h) (Or.inl ⟨by rfl, ?_⟩) hHeld ?_
  rotate_left
  · intro w hSw
    (try dsimp only at hSw)
    go_simp
    all_goals with_reducible rfl
  simp only [Act.put, List.getElem_toArray, List.getElem_cons_succ, List.getElem_cons_zero, List.setIfInBounds_toArray, List.set_cons_zero, List.set_cons_succ]
  refine wpAnyH_take (i := 5) (v := ?_) rfl (by kernel_rfl) (by kernel_rfl) (by kernel_rfl) (fun _ _ _ h => h) (Or.inl ⟨by rfl, ?_⟩) hHeld ?_
  rotate_left
  · intro w hSw
    (try dsimp only at hSw)
    go_simp
    all_goals with_reducible rfl
  simp only [Act.put, List.getElem_toArray, List.getElem_cons_succ, List.getElem_cons_zero, List.setIfInBounds_toArray, List.set_cons_zero, List.set_cons_succ]
  refine wpAnyH_take (i := 6) (v := ?_) rfl (by kernel_rfl) (by kernel_rfl) (by kernel_rfl) (fun _ _ _ h => h) (Or.inl ⟨by rfl, ?_⟩) hHeld ?_
  rotate_left
  · intro w hSw
    (try dsimp only at hSw)
    go_simp
    all_goals with_reducible rfl
  simp only [Act.put, List.getElem_toArray, List.getElem_cons_succ, List.getElem_cons_zero, List.setIfInBounds_toArray, List.set_cons_zero, List.set_cons_succ]
  refine wpAnyH_take (i := 7) (v := ?_) rfl (by kernel_rfl) (by kernel_rfl) (by kernel_rfl) (fun _ _ _ h => h) (Or.inl ⟨by rfl, ?_⟩) hHeld ?_
  rotate_left
  · intro w hSw
    (try dsimp only at hSw)
    go_simp
    all_goals with_reducible rfl
  simp only [Act.put, List.getElem_toArray, List.getElem_cons_succ, List.getElem_cons_zero, List.setIfInBounds_toArray, List.set_cons_zero, List.set_cons_succ]
  refine wpAnyH_take (i := 8) (v := ?_) rfl (by kernel_rfl) (by kernel_rfl) (by kernel_rfl) (fun _ _ _ h => h) (Or.inl ⟨by rfl, ?_⟩) hHeld ?_
  rotate_left
  · intro w hSw
    (try dsimp only at hSw)
    go_simp
    all_goals with_reducible rfl
  simp only [Act.put, List.getElem_toArray, List.getElem_cons_succ, List.getElem_cons_zero, List.setIfInBounds_toArray, List.set_cons_zero, List.set_cons_succ]
  refine wpAnyH_take (i := 9) (v := ?_) rfl (by kernel_rfl) (by kernel_rfl) (by kernel_rfl) (fun _ _ _ h => h) (Or.inl ⟨by rfl, ?_⟩) hHeld ?_
  rotate_left
  · intro w hSw
    (try dsimp only at hSw)
    go_simp
    all_goals with_reducible rfl
  simp only [Act.put, List.getElem_toArray, List.getElem_cons_succ, List.getElem_cons_zero, List.setIfInBounds_toArray, List.set_cons_zero, List.set_cons_succ]
  refine wpAnyH_take (i := 10) (v := ?_) rfl (by kernel_rfl) (by kernel_rfl) (by kernel_rfl) (fun _ _ _ h => h) (Or.inl ⟨by rfl, ?_⟩) hHeld ?_
  rotate_left
  · intro w hSw
    (try dsimp only at hSw)
    go_simp
    all_goals with_reducible rfl
  simp only [Act.put, List.getElem_toArray, List.getElem_cons_succ, List.getElem_cons_zero, List.setIfInBounds_toArray, List.set_cons_zero, List.set_cons_succ]
  refine wpAnyH_take (i := 11) (v := ?_) rfl (by kernel_rfl) (by kernel_rfl) (by kernel_rfl) (fun _ _ _ h => h) (Or.inl ⟨by rfl, ?_⟩) hHeld ?_
  rotate_left
  · intro w hSw
    (try dsimp only at hSw)
    go_simp
    all_goals with_reducible rfl
  simp only [Act.put, List.getElem_toArray, List.getElem_cons_succ, List.getElem_cons_zero, List.setIfInBounds_toArray, List.set_cons_zero, List.set_cons_succ]
  refine wpAnyH_take (i := 12) (v := ?_) rfl (by kernel_rfl) (by kernel_rfl) (by kernel_rfl) (fun _ _ _ h => h) (Or.inl ⟨by rfl, ?_⟩) hHeld ?_
  rotate_left
  · intro w hSw
    (try dsimp only at hSw)
    go_simp
    all_goals with_reducible rfl
  simp only [Act.put, List.getElem_toArray, List.getElem_cons_succ, List.getElem_cons_zero, List.setIfInBounds_toArray, List.set_cons_zero, List.set_cons_succ]
  refine wpAnyH_ready (rs := [4, 13]) (by kernel_rfl) (by simp) ?_
  refine AllReadyH.cons (o := _) rfl (fun K hK => ?_) (AllReadyH.cons (o := _) rfl (fun K hK => ?_) AllReadyH.nil)
  · go_simp
    refine hK.out _ _ ⟨x1, x2, x3⟩ (fun hHeld => ?_)
    clear hK
    try simp only [Act.put, List.getElem_toArray, List.getElem_cons_succ, List.getElem_cons_zero, List.setIfInBounds_toArray, List.set_cons_zero, List.set_cons_succ]
    refine wpAnyH_ready (rs := [13]) (by kernel_rfl) (by simp) ?_
    refine AllReadyH.cons (o := _) rfl (fun K hK => ?_) AllReadyH.nil
    go_simp
    refine hK.out _ _ ⟨a1, a2, a3⟩ (fun hHeld => ?_)
    clear hK
    try simp only [Act.put, List.getElem_toArray, List.getElem_cons_succ, List.getElem_cons_zero, List.setIfInBounds_toArray, List.set_cons_zero, List.set_cons_succ]
    refine wpAnyH_ready (rs := [14]) (by kernel_rfl) (by simp) ?_
    refine AllReadyH.cons (o := _) rfl (fun K hK => ?_) AllReadyH.nil
    refine step_append_lies _ (by rfl) _ _ _ (by rfl) c.w0.heap.size 42 i0 _ 4 32 Tryz.underlying28 hi iz0 iz1 iz2 rfl (by omega) (.slice ar s.wrong.length cr) s.wrong.length (prbs s.wrong) (by rfl) (by exact HA.out.r) ⟨w1.heap.size, 0, none⟩ 1 1 [.int .i64 e, .int .i64 o1, .int .i64 o2, .int .i64 o3] (by rfl) (by rfl) (World.news_of_block (cs := #[.int .i64 e, .int .i64 o1, .int .i64 o2, .int .i64 o3]) (t := 42) (fr := (0, 0)) (by exact heap_alloc_new _ _)) (by simp [Value.oneCell']) (by omega) (by unfold maxLen; omega) (by omega) (by simp; omega) (w1.heap.size + 1) (by simp) ?_
    intro gg cap9 w9 ho9 hg9 hat hlt9
    have HR9 := Lib.hid (own_row (HA.out.p.kept hg9 (own_ne2 HA.out.p HA.out.r (by decide))))
    have HX9 := Lib.hid (HXA.out.grown hg9 hz2 (fun q => by have := (HRL.out _ q.symm).2; omega))
    have HE9 := Lib.hid (HA.out.addR (x := (e, o1, o2, o3)) ho9 hg9)
    have d8 := HR9.out.cell (j := 8) rfl
    have f8 := HR9.out.free (j := 8) (by simp [parC])
    have y1 := HX9.out.cell (j := 1) rfl
    have y2 := HX9.out.cell (j := 2) rfl
    have y3 := HX9.out.cell (j := 3) rfl
    have HZ9 := Lib.hid (HX9.out.setFar (Ne.symm hne) 8 (.slice (some ⟨gg, 0, none⟩) (s.wrong.length + 1) cap9))
    clear ho9 hg9 hat hlt9
    refine hK.out _ _ ⟨y1, y2, y3⟩ (fun hHeld => ?_)
    clear hK
    try simp only [Act.put, List.getElem_toArray, List.getElem_cons_succ, List.getElem_cons_zero, List.setIfInBounds_toArray, List.set_cons_zero, List.set_cons_succ]
    clear y1 y2 y3
    refine wpAnyH_take (i := 15) (v := ?_) rfl (by kernel_rfl) (by kernel_rfl) (by kernel_rfl) (fun _ _ _ h => h) (Or.inl ⟨by rfl, ?_⟩) hHeld ?_
    rotate_left
    · intro w hSw
      (try dsimp only at hSw)
      go_simp
      all_goals with_reducible rfl
    simp only [Act.put, List.getElem_toArray, List.getElem_cons_succ, List.getElem_cons_zero, List.setIfInBounds_toArray, List.set_cons_zero, List.set_cons_succ]
    refine wpAnyH_take (i := 16) (v := ?_) rfl (by kernel_rfl) (by kernel_rfl) (by kernel_rfl) (fun _ _ _ h => h) (Or.inl ⟨by rfl, ?_⟩) hHeld ?_
    rotate_left
    · intro w hSw
      (try dsimp only at hSw)
      go_simp
      all_goals with_reducible rfl
    simp only [Act.put, List.getElem_toArray, List.getElem_cons_succ, List.getElem_cons_zero, List.setIfInBounds_toArray, List.set_cons_zero, List.set_cons_succ]
    refine wpAnyH_ready (rs := [17]) (by kernel_rfl) (by simp) ?_
    refine AllReadyH.cons (o := _) rfl (fun K hK => ?_) AllReadyH.nil
    go_simp
    refine hK.out _ _ ⟨HZ9.out.cell (j := 1) rfl, HZ9.out.cell (j := 2) rfl, HZ9.out.cell (j := 3) rfl⟩ (fun hHeld => ?_)
    clear hK
    try simp only [Act.put, List.getElem_toArray, List.getElem_cons_succ, List.getElem_cons_zero, List.setIfInBounds_toArray, List.set_cons_zero, List.set_cons_succ]
    refine wpAnyH_done (by kernel_rfl) ?_ _
    clear hHeld
    go_wp2_with fail
    go_end0
    exact ⟨rfl, _, _, HE9.out⟩
  · go_simp
    refine hK.out _ _ ⟨a1, a2, a3⟩ (fun hHeld => ?_)
    clear hK
    try simp only [Act.put, List.getElem_toArray, List.getElem_cons_succ, List.getElem_cons_zero, List.setIfInBounds_toArray, List.set_cons_zero, List.set_cons_succ]
    have a8 := cell_alloc c8 (.cells #[.int .i64 e, .int .i64 o1, .int .i64 o2, .int .i64 o3] 42)
    refine wpAnyH_ready (rs := [4]) (by kernel_rfl) (by simp) ?_
    refine AllReadyH.cons (o := _) rfl (fun K hK => ?_) AllReadyH.nil
    go_simp
    refine hK.out _ _ ⟨a1, a2, a3⟩ (fun hHeld => ?_)
    clear hK
    try simp only [Act.put, List.getElem_toArray, List.getElem_cons_succ, List.getElem_cons_zero, List.setIfInBounds_toArray, List.set_cons_zero, List.set_cons_succ]
    clear a8
    refine wpAnyH_ready (rs := [14]) (by kernel_rfl) (by simp) ?_
    refine AllReadyH.cons (o := _) rfl (fun K hK => ?_) AllReadyH.nil
    refine step_append_lies _ (by rfl) _ _ _ (by rfl) c.w0.heap.size 42 i0 _ 4 32 Tryz.underlying28 hi iz0 iz1 iz2 rfl (by omega) (.slice ar s.wrong.length cr) s.wrong.length (prbs s.wrong) (by rfl) (by exact HA.out.r) ⟨w1.heap.size, 0, none⟩ 1 1 [.int .i64 e, .int .i64 o1, .int .i64 o2, .int .i64 o3] (by rfl) (by rfl) (World.news_of_block (cs := #[.int .i64 e, .int .i64 o1, .int .i64 o2, .int .i64 o3]) (t := 42) (fr := (0, 0)) (by exact heap_alloc_new _ _)) (by simp [Value.oneCell']) (by omega) (by unfold maxLen; omega) (by omega) (by simp; omega) (w1.heap.size + 1) (by simp) ?_
    intro gg cap9 w9 ho9 hg9 hat hlt9
    have HR9 := Lib.hid (own_row (HA.out.p.kept hg9 (own_ne2 HA.out.p HA.out.r (by decide))))
    have HX9 := Lib.hid (HXA.out.grown hg9 hz2 (fun q => by have := (HRL.out _ q.symm).2; omega))
    have HE9 := Lib.hid (HA.out.addR (x := (e, o1, o2, o3)) ho9 hg9)
    have d8 := HR9.out.cell (j := 8) rfl
    have f8 := HR9.out.free (j := 8) (by simp [parC])
    have y1 := HX9.out.cell (j := 1) rfl
    have y2 := HX9.out.cell (j := 2) rfl
    have y3 := HX9.out.cell (j := 3) rfl
    have HZ9 := Lib.hid (HX9.out.setFar (Ne.symm hne) 8 (.slice (some ⟨gg, 0, none⟩) (s.wrong.length + 1) cap9))
    clear ho9 hg9 hat hlt9
    refine hK.out _ _ ⟨y1, y2, y3⟩ (fun hHeld => ?_)
    clear hK
    try simp only [Act.put, List.getElem_toArray, List.getElem_cons_succ, List.getElem_cons_zero, List.setIfInBounds_toArray, List.set_cons_zero, List.set_cons_succ]
    clear y1 y2 y3
    refine wpAnyH_take (i := 15) (v := ?_) rfl (by kernel_rfl) (by kernel_rfl) (by kernel_rfl) (fun _ _ _ h => h) (Or.inl ⟨by rfl, ?_⟩) hHeld ?_
    rotate_left
    · intro w hSw
      (try dsimp only at hSw)
      go_simp
      all_goals with_reducible rfl
    simp only [Act.put, List.getElem_toArray, List.getElem_cons_succ, List.getElem_cons_zero, List.setIfInBounds_toArray, List.set_cons_zero, List.set_cons_succ]
    refine wpAnyH_take (i := 16) (v := ?_) rfl (by kernel_rfl) (by kernel_rfl) (by kernel_rfl) (fun _ _ _ h => h) (Or.inl ⟨by rfl, ?_⟩) hHeld ?_
    rotate_left
    · intro w hSw
      (try dsimp only at hSw)
      go_simp
      all_goals with_reducible rfl
    simp only [Act.put, List.getElem_toArray, List.getElem_cons_succ, List.getElem_cons_zero, List.setIfInBounds_toArray, List.set_cons_zero, List.set_cons_succ]
    refine wpAnyH_ready (rs := [17]) (by kernel_rfl) (by simp) ?_
    refine AllReadyH.cons (o := _) rfl (fun K hK => ?_) AllReadyH.nil
    go_simp
    refine hK.out _ _ ⟨HZ9.out.cell (j := 1) rfl, HZ9.out.cell (j := 2) rfl, HZ9.out.cell (j := 3) rfl⟩ (fun hHeld => ?_)
    clear hK
    try simp only [Act.put, List.getElem_toArray, List.getElem_cons_succ, List.getElem_cons_zero, List.setIfInBounds_toArray, List.set_cons_zero, List.set_cons_succ]
    refine wpAnyH_done (by kernel_rfl) ?_ _
    clear hHeld
    go_wp2_with fail
    go_end0
    exact ⟨rfl, _, _, HE9.out⟩

set_option maxHeartbeats 800000 in
set_option maxRecDepth 100000 in
theorem ps_record (c : PC) (i : Int) (s : PS) (vo vr : Value) (r : Rc) (W : World) (h : ParX c i s vo vr W) (hl : s.out.length ≤ 1000000) :
    Calls Tryz.prog 56 #[.pointer (some ⟨c.B, 0, none⟩), recV r] W (PPost c i (s.put r)) := by
  obtain ⟨rk, rt, rc, rv⟩ := r
  obtain ⟨i0, hi, iz0, iz1, iz2⟩ := info_parts (P := Tryz.prog) rec_info
  obtain ⟨ao, co, rfl, -, -⟩ := (SlR.of_own h.o).shape
  have hal : Below W.heap.size W (W.alloc (.cells #[.int .i64 rk, .int .i64 rt, .string (bsB rc), .string (bsB rv)] 45)) := (Below.refl _ _).alloc (Nat.le_refl _) _
  have hx := OwnRow.fresh W #[.int .i64 rk, .int .i64 rt, .string (bsB rc), .string (bsB rv)] 45
  have hz : W.heap.size < (W.alloc (.cells #[.int .i64 rk, .int .i64 rt, .string (bsB rc), .string (bsB rv)] 45)).heap.size := by simp
  have H := Lib.hid (h.later hal)
  generalize hw1 : W.alloc (.cells #[.int .i64 rk, .int .i64 rt, .string (bsB rc), .string (bsB rv)] 45) = w1 at *
  have c6 := H.out.row.cell (j := 6) rfl
  have c7 := H.out.row.cell (j := 7) rfl
  have x0 := hx.cell (j := 0) rfl
  have x1 := hx.cell (j := 1) rfl
  have x2 := hx.cell (j := 2) rfl
  have x3 := hx.cell (j := 3) rfl
  have hB := h.lo
  obtain ⟨hB1, hB2⟩ := hB
  have hbs := H.out.b.size
  have HRL := Lib.hid h.o.lt
  have hal2 : Below w1.heap.size w1 (w1.drew.alloc (.cells #[.int .i64 rk, .int .i64 rt, .string (bsB rc), .string (bsB rv)] 45)) := ((Below.refl _ _).drew).alloc (Nat.le_refl _) _
  have HA := Lib.hid (H.out.later hal2)
  have HXA := Lib.hid (hx.below hal2 hz)
  have hz2 : W.heap.size < (w1.drew.alloc (.cells #[.int .i64 rk, .int .i64 rt, .string (bsB rc), .string (bsB rv)] 45)).heap.size := by have := hal2.size; omega
  have a0 := HXA.out.cell (j := 0) rfl
  have a1 := HXA.out.cell (j := 1) rfl
  have a2 := HXA.out.cell (j := 2) rfl
  have a3 := HXA.out.cell (j := 3) rfl
  have hne : W.heap.size ≠ c.B := by omega
  clear h hal hx hal2
  cases hsk : s.skip
  · have HR := Lib.hid (show { s with out := s.out ++ [(rk, rt, rc, rv)] } = s.put (rk, rt, rc, rv) by unfold PS.put; rw [if_neg (by rw [hsk]; simp)])
    rw [hsk] at c6
    clear hsk
    go_enter Tryz.func56, Tryz.ntmps56
    go_wp2_with fail
    refine wp_region_held_drew (S := (fun w' => w'.cell? ⟨W.heap.size, 0, none⟩ = some (.int .i64 rk) ∧ w'.cell? ⟨W.heap.size, 1, none⟩ = some (.int .i64 rt) ∧ w'.cell? ⟨W.heap.size, 2, none⟩ = some (.string (bsB rc)) ∧ w'.cell? ⟨W.heap.size, 3, none⟩ = some (.string (bsB rv)))) (by kernel_rfl) ⟨x0, x1, x2, x3⟩ (fun hHeld => ?_)
    refine wpAnyH_take (i := 0) (v := ?_) rfl (by kernel_rfl) (by kernel_rfl) (by kernel_rfl) (fun _ _ _ h => h) (Or.inl ⟨by rfl, ?_⟩) hHeld ?_
    rotate_left
    · intro w hSw
      (try dsimp only at hSw)
      go_simp
      all_goals with_reducible rfl
    simp only [Act.put, List.getElem_toArray, List.getElem_cons_succ, List.getElem_cons_zero, List.setIfInBounds_toArray, List.set_cons_zero, List.set_cons_succ]
    refine wpAnyH_take (i := 1) (v := ?_) rfl (by kernel_rfl) (by kernel_rfl) (by kernel_rfl) (fun _ _ _ h => h) (Or.inl ⟨by rfl, ?_⟩) hHeld ?_
    rotate_left
    · intro w hSw
      (try dsimp only at hSw)
      go_simp
      all_goals with_reducible rfl
    simp only [Act.put, List.getElem_toArray, List.getElem_cons_succ, List.getElem_cons_zero, List.setIfInBounds_toArray, List.set_cons_zero, List.set_cons_succ]
    refine wpAnyH_take (i := 2) (v := ?_) rfl (by kernel_rfl) (by kernel_rfl) (by kernel_rfl) (fun _ _ _ h => h) (Or.inl ⟨by rfl, ?_⟩) hHeld ?_
    rotate_left
    · intro w hSw
      (try dsimp only at hSw)
      go_simp
      all_goals with_reducible rfl
    simp only [Act.put, List.getElem_toArray, List.getElem_cons_succ, List.getElem_cons_zero, List.setIfInBounds_toArray, List.set_cons_zero, List.set_cons_succ]
    refine wpAnyH_take (i := 3) (v := ?_) rfl (by kernel_rfl) (by kernel_rfl) (by kernel_rfl) (fun _ _ _ h => h) (Or.inl ⟨by rfl, ?_⟩) hHeld ?_
    rotate_left
    · intro w hSw
      (try dsimp only at hSw)
      go_simp
      all_goals with_reducible rfl
    simp only [Act.put, List.getElem_toArray, List.getElem_cons_succ, List.getElem_cons_zero, List.setIfInBounds_toArray, List.set_cons_zero, List.set_cons_succ]
    refine wpAnyH_take (i := 5) (v := ?_) rfl (by kernel_rfl) (by kernel_rfl) (by kernel_rfl) (fun _ _ _ h => h) (Or.inl ⟨by rfl, ?_⟩) hHeld ?_
    rotate_left
    · intro w hSw
      (try dsimp only at hSw)
      go_simp
      all_goals with_reducible rfl
    simp only [Act.put, List.getElem_toArray, List.getElem_cons_succ, List.getElem_cons_zero, List.setIfInBounds_toArray, List.set_cons_zero, List.set_cons_succ]
    refine wpAnyH_ready (rs := [4, 6]) (by kernel_rfl) (by simp) ?_
    refine AllReadyH.cons (o := _) rfl (fun K hK => ?_) (AllReadyH.cons (o := _) rfl (fun K hK => ?_) AllReadyH.nil)
    · go_simp
      refine hK.out _ _ ⟨x0, x1, x2, x3⟩ (fun hHeld => ?_)
      clear hK
      try simp only [Act.put, List.getElem_toArray, List.getElem_cons_succ, List.getElem_cons_zero, List.setIfInBounds_toArray, List.set_cons_zero, List.set_cons_succ]
      refine wpAnyH_ready (rs := [6]) (by kernel_rfl) (by simp) ?_
      refine AllReadyH.cons (o := _) rfl (fun K hK => ?_) AllReadyH.nil
      go_simp
      refine hK.out _ _ ⟨a0, a1, a2, a3⟩ (fun hHeld => ?_)
      clear hK
      try simp only [Act.put, List.getElem_toArray, List.getElem_cons_succ, List.getElem_cons_zero, List.setIfInBounds_toArray, List.set_cons_zero, List.set_cons_succ]
      refine wpAnyH_ready (rs := [7]) (by kernel_rfl) (by simp) ?_
      refine AllReadyH.cons (o := _) rfl (fun K hK => ?_) AllReadyH.nil
      refine step_append_lies _ (by rfl) _ _ _ (by rfl) c.w0.heap.size 45 i0 _ 4 48 Tryz.underlying22 hi iz0 iz1 iz2 rfl (by omega) (.slice ao s.out.length co) s.out.length (recs s.out) (by rfl) (by exact HA.out.o) ⟨w1.heap.size, 0, none⟩ 1 1 [.int .i64 rk, .int .i64 rt, .string (bsB rc), .string (bsB rv)] (by rfl) (by rfl) (World.news_of_block (cs := #[.int .i64 rk, .int .i64 rt, .string (bsB rc), .string (bsB rv)]) (t := 45) (fr := (0, 0)) (by exact heap_alloc_new _ _)) (by simp [Value.oneCell']) (by omega) (by unfold maxLen; omega) (by omega) (by simp; omega) (w1.heap.size + 1) (by simp) ?_
      intro gg cap9 w9 ho9 hg9 hat hlt9
      have HR9 := Lib.hid (own_row (HA.out.p.kept hg9 (own_ne2 HA.out.p HA.out.o (by decide))))
      have HX9 := Lib.hid (HXA.out.grown hg9 hz2 (fun q => by have := (HRL.out _ q.symm).2; omega))
      have HE9 := Lib.hid (HA.out.addO (x := (rk, rt, rc, rv)) ho9 hg9)
      have d7 := HR9.out.cell (j := 7) rfl
      have f7 := HR9.out.free (j := 7) (by simp [parC])
      have y0 := HX9.out.cell (j := 0) rfl
      have y1 := HX9.out.cell (j := 1) rfl
      have y2 := HX9.out.cell (j := 2) rfl
      have y3 := HX9.out.cell (j := 3) rfl
      have HZ9 := Lib.hid (HX9.out.setFar (Ne.symm hne) 7 (.slice (some ⟨gg, 0, none⟩) (s.out.length + 1) cap9))
      clear ho9 hg9 hat hlt9
      refine hK.out _ _ ⟨y0, y1, y2, y3⟩ (fun hHeld => ?_)
      clear hK
      try simp only [Act.put, List.getElem_toArray, List.getElem_cons_succ, List.getElem_cons_zero, List.setIfInBounds_toArray, List.set_cons_zero, List.set_cons_succ]
      clear y0 y1 y2 y3
      refine wpAnyH_take (i := 8) (v := ?_) rfl (by kernel_rfl) (by kernel_rfl) (by kernel_rfl) (fun _ _ _ h => h) (Or.inl ⟨by rfl, ?_⟩) hHeld ?_
      rotate_left
      · intro w hSw
        (try dsimp only at hSw)
        go_simp
        all_goals with_reducible rfl
      simp only [Act.put, List.getElem_toArray, List.getElem_cons_succ, List.getElem_cons_zero, List.setIfInBounds_toArray, List.set_cons_zero, List.set_cons_succ]
      refine wpAnyH_take (i := 9) (v := ?_) rfl (by kernel_rfl) (by kernel_rfl) (by kernel_rfl) (fun _ _ _ h => h) (Or.inl ⟨by rfl, ?_⟩) hHeld ?_
      rotate_left
      · intro w hSw
        (try dsimp only at hSw)
        go_simp
        all_goals with_reducible rfl
      simp only [Act.put, List.getElem_toArray, List.getElem_cons_succ, List.getElem_cons_zero, List.setIfInBounds_toArray, List.set_cons_zero, List.set_cons_succ]
      refine wpAnyH_ready (rs := [10]) (by kernel_rfl) (by simp) ?_
      refine AllReadyH.cons (o := _) rfl (fun K hK => ?_) AllReadyH.nil
      go_simp
      refine hK.out _ _ ⟨HZ9.out.cell (j := 0) rfl, HZ9.out.cell (j := 1) rfl, HZ9.out.cell (j := 2) rfl, HZ9.out.cell (j := 3) rfl⟩ (fun hHeld => ?_)
      clear hK
      try simp only [Act.put, List.getElem_toArray, List.getElem_cons_succ, List.getElem_cons_zero, List.setIfInBounds_toArray, List.set_cons_zero, List.set_cons_succ]
      refine wpAnyH_done (by kernel_rfl) ?_ _
      clear hHeld
      go_wp2_with fail
      go_end0
      exact ⟨rfl, _, _, HR.out ▸ HE9.out⟩
    · go_simp
      refine hK.out _ _ ⟨a0, a1, a2, a3⟩ (fun hHeld => ?_)
      clear hK
      try simp only [Act.put, List.getElem_toArray, List.getElem_cons_succ, List.getElem_cons_zero, List.setIfInBounds_toArray, List.set_cons_zero, List.set_cons_succ]
      have a7 := cell_alloc c7 (.cells #[.int .i64 rk, .int .i64 rt, .string (bsB rc), .string (bsB rv)] 45)
      refine wpAnyH_ready (rs := [4]) (by kernel_rfl) (by simp) ?_
      refine AllReadyH.cons (o := _) rfl (fun K hK => ?_) AllReadyH.nil
      go_simp
      refine hK.out _ _ ⟨a0, a1, a2, a3⟩ (fun hHeld => ?_)
      clear hK
      try simp only [Act.put, List.getElem_toArray, List.getElem_cons_succ, List.getElem_cons_zero, List.setIfInBounds_toArray, List.set_cons_zero, List.set_cons_succ]
      clear a7
      refine wpAnyH_ready (rs := [7]) (by kernel_rfl) (by simp) ?_
      refine AllReadyH.cons (o := _) rfl (fun K hK => ?_) AllReadyH.nil
      refine step_append_lies _ (by rfl) _ _ _ (by rfl) c.w0.heap.size 45 i0 _ 4 48 Tryz.underlying22 hi iz0 iz1 iz2 rfl (by omega) (.slice ao s.out.length co) s.out.length (recs s.out) (by rfl) (by exact HA.out.o) ⟨w1.heap.size, 0, none⟩ 1 1 [.int .i64 rk, .int .i64 rt, .string (bsB rc), .string (bsB rv)] (by rfl) (by rfl) (World.news_of_block (cs := #[.int .i64 rk, .int .i64 rt, .string (bsB rc), .string (bsB rv)]) (t := 45) (fr := (0, 0)) (by exact heap_alloc_new _ _)) (by simp [Value.oneCell']) (by omega) (by unfold maxLen; omega) (by omega) (by simp; omega) (w1.heap.size + 1) (by simp) ?_
      intro gg cap9 w9 ho9 hg9 hat hlt9
      have HR9 := Lib.hid (own_row (HA.out.p.kept hg9 (own_ne2 HA.out.p HA.out.o (by decide))))
      have HX9 := Lib.hid (HXA.out.grown hg9 hz2 (fun q => by have := (HRL.out _ q.symm).2; omega))
      have HE9 := Lib.hid (HA.out.addO (x := (rk, rt, rc, rv)) ho9 hg9)
      have d7 := HR9.out.cell (j := 7) rfl
      have f7 := HR9.out.free (j := 7) (by simp [parC])
      have y0 := HX9.out.cell (j := 0) rfl
      have y1 := HX9.out.cell (j := 1) rfl
      have y2 := HX9.out.cell (j := 2) rfl
      have y3 := HX9.out.cell (j := 3) rfl
      have HZ9 := Lib.hid (HX9.out.setFar (Ne.symm hne) 7 (.slice (some ⟨gg, 0, none⟩) (s.out.length + 1) cap9))
      clear ho9 hg9 hat hlt9
      refine hK.out _ _ ⟨y0, y1, y2, y3⟩ (fun hHeld => ?_)
      clear hK
      try simp only [Act.put, List.getElem_toArray, List.getElem_cons_succ, List.getElem_cons_zero, List.setIfInBounds_toArray, List.set_cons_zero, List.set_cons_succ]
      clear y0 y1 y2 y3
      refine wpAnyH_take (i := 8) (v := ?_) rfl (by kernel_rfl) (by kernel_rfl) (by kernel_rfl) (fun _ _ _ h => h) (Or.inl ⟨by rfl, ?_⟩) hHeld ?_
      rotate_left
      · intro w hSw
        (try dsimp only at hSw)
        go_simp
        all_goals with_reducible rfl
      simp only [Act.put, List.getElem_toArray, List.getElem_cons_succ, List.getElem_cons_zero, List.setIfInBounds_toArray, List.set_cons_zero, List.set_cons_succ]
      refine wpAnyH_take (i := 9) (v := ?_) rfl (by kernel_rfl) (by kernel_rfl) (by kernel_rfl) (fun _ _ _ h => h) (Or.inl ⟨by rfl, ?_⟩) hHeld ?_
      rotate_left
      · intro w hSw
        (try dsimp only at hSw)
        go_simp
        all_goals with_reducible rfl
      simp only [Act.put, List.getElem_toArray, List.getElem_cons_succ, List.getElem_cons_zero, List.setIfInBounds_toArray, List.set_cons_zero, List.set_cons_succ]
      refine wpAnyH_ready (rs := [10]) (by kernel_rfl) (by simp) ?_
      refine AllReadyH.cons (o := _) rfl (fun K hK => ?_) AllReadyH.nil
      go_simp
      refine hK.out _ _ ⟨HZ9.out.cell (j := 0) rfl, HZ9.out.cell (j := 1) rfl, HZ9.out.cell (j := 2) rfl, HZ9.out.cell (j := 3) rfl⟩ (fun hHeld => ?_)
      clear hK
      try simp only [Act.put, List.getElem_toArray, List.getElem_cons_succ, List.getElem_cons_zero, List.setIfInBounds_toArray, List.set_cons_zero, List.set_cons_succ]
      refine wpAnyH_done (by kernel_rfl) ?_ _
      clear hHeld
      go_wp2_with fail
      go_end0
      exact ⟨rfl, _, _, HR.out ▸ HE9.out⟩
  · have HR := Lib.hid (show s = s.put (rk, rt, rc, rv) by unfold PS.put; rw [if_pos hsk])
    rw [hsk] at c6
    clear hsk
    go_enter Tryz.func56, Tryz.ntmps56
    go_wp2_with fail
    go_end0
    exact ⟨rfl, _, _, HR.out ▸ H.out⟩
end Go.Proofs.YtgnkjcdkfcikeaaGreatDoor
