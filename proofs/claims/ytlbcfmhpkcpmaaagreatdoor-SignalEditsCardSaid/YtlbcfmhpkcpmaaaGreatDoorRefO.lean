import Derived.Test.YtlbcfmhpkcpmaaaGreatDoorRefN
namespace Go.Proofs.YtlbcfmhpkcpmaaaGreatDoor
open Go.RowKit

/-- the boxes of an edit: the signal, the result -/
structure EdSt (w W : World) (k n : Int) (a : Option Addr) (len cap : Nat) : Prop where
  s : OwnRow W w.heap.size [.int .i64 k, .int .i64 n, .slice a len cap]
  r : OwnRow W (w.heap.size + 1) [.int .i64 0, .int .i64 0, .slice none 0 0]
  b : Below w.heap.size w W
  z : w.heap.size + 1 < W.heap.size
theorem EdSt.start (w : World) (k n : Int) (a : Option Addr) (len cap : Nat) (S : TypeId) : EdSt w ((w.alloc (.cells #[.int .i64 k, .int .i64 n, .slice a len cap] S)).alloc (.cells #[.int .i64 0, .int .i64 0, .slice none 0 0] S)) k n a len cap := by
  refine ⟨(OwnRow.fresh w #[.int .i64 k, .int .i64 n, .slice a len cap] _).alloc (by simp) _, ?_, ((Below.refl _ _).alloc (Nat.le_refl _) _).alloc (by simp) _, by simp⟩
  have h := OwnRow.fresh (w.alloc (.cells #[.int .i64 k, .int .i64 n, .slice a len cap] S)) #[.int .i64 0, .int .i64 0, .slice none 0 0] S
  simp only [World.size_alloc] at h
  exact h
theorem EdSt.later {w W W' : World} {k n : Int} {a : Option Addr} {len cap : Nat} (h : EdSt w W k n a len cap) {B : Nat} (hb : Below B W W') (hB : w.heap.size + 1 < B) : EdSt w W' k n a len cap :=
  ⟨h.s.below hb (by omega), h.r.below hb hB, h.b.trans (hb.mono (by omega)), by have := hb.size; have := h.z; omega⟩
theorem EdSt.facts {w W : World} {k n : Int} {a : Option Addr} {len cap : Nat} (h : EdSt w W k n a len cap) :
    (W.cell? ⟨w.heap.size, 0, none⟩ = some (.int .i64 k) ∧ W.cell? ⟨w.heap.size, 1, none⟩ = some (.int .i64 n) ∧ W.cell? ⟨w.heap.size, 2, none⟩ = some (.slice a len cap)) ∧
    (W.cell? ⟨w.heap.size + 1, 0, none⟩ = some (.int .i64 0) ∧ W.cell? ⟨w.heap.size + 1, 1, none⟩ = some (.int .i64 0) ∧ W.cell? ⟨w.heap.size + 1, 2, none⟩ = some (.slice none 0 0)) ∧
    (W.frozen? ⟨w.heap.size + 1, 0, none⟩ = false ∧ W.frozen? ⟨w.heap.size + 1, 1, none⟩ = false ∧ W.frozen? ⟨w.heap.size + 1, 2, none⟩ = false) :=
  ⟨⟨h.s.cell (j := 0) rfl, h.s.cell (j := 1) rfl, h.s.cell (j := 2) rfl⟩, ⟨h.r.cell (j := 0) rfl, h.r.cell (j := 1) rfl, h.r.cell (j := 2) rfl⟩, ⟨h.r.free (j := 0) (by simp), h.r.free (j := 1) (by simp), h.r.free (j := 2) (by simp)⟩⟩
theorem EdSt.drewN {w W : World} {k n : Int} {a : Option Addr} {len cap : Nat} (h : EdSt w W k n a len cap) (m : Nat) : EdSt w (W.drewN m) k n a len cap := ⟨h.s, h.r, below_drewN h.b m, h.z⟩
theorem EdSt.fin {w W : World} {k n : Int} {a : Option Addr} {len cap : Nat} (h : EdSt w W k n a len cap) (x y z : Value) :
    (((((W.setCell ⟨w.heap.size + 1, 0, none⟩ x).setCell ⟨w.heap.size + 1, 1, none⟩ y).setCell ⟨w.heap.size + 1, 2, none⟩ z).cell? ⟨w.heap.size + 1, 0, none⟩ = some x ∧ (((W.setCell ⟨w.heap.size + 1, 0, none⟩ x).setCell ⟨w.heap.size + 1, 1, none⟩ y).setCell ⟨w.heap.size + 1, 2, none⟩ z).cell? ⟨w.heap.size + 1, 1, none⟩ = some y ∧ (((W.setCell ⟨w.heap.size + 1, 0, none⟩ x).setCell ⟨w.heap.size + 1, 1, none⟩ y).setCell ⟨w.heap.size + 1, 2, none⟩ z).cell? ⟨w.heap.size + 1, 2, none⟩ = some z)) ∧
      Below w.heap.size w (((W.setCell ⟨w.heap.size + 1, 0, none⟩ x).setCell ⟨w.heap.size + 1, 1, none⟩ y).setCell ⟨w.heap.size + 1, 2, none⟩ z) :=
  ⟨set3 (h.r.cell (j := 0) rfl) (h.r.cell (j := 1) rfl) (h.r.cell (j := 2) rfl) x y z, below_set3' h.b (by omega) _ _ _⟩
theorem slr_two {w : World} {B : Nat} (a9 : Option Addr) (c9 : Nat) (r m : List Ch) (h : w.ownsRow B 36 2 (.slice a9 (r.length + m.length) c9) (r.length + m.length) (chs r ++ chs m)) :
    SlR w (.slice a9 (r.length + m.length) c9) (r ++ m).length (chs (r ++ m)) := by
  have := SlR.of_own h
  rw [List.length_append, chs_append]
  exact this

/-- the list of Put -/
theorem put_list {k n : Int} {l : List Ch} (h : sv k n l = true) {from_ to_ : Int} (v : ByteArray) (h0 : 0 ≤ from_) (hto : to_ ≤ 1099511627777) :
    partL l 0 (from_ - 1) ++ [(from_, v)] ++ (if to_ ≤ 1099511627776 then [(to_, val (vi k n) l to_)] else []) ++ partL l (to_ + 1) 1099511627776 = putL k n l from_ to_ v := by
  have hn := sv_nonDec h
  have hm := sv_mem h
  unfold putL
  rw [partL_sorted hn 0 (from_ - 1) (by omega), lo_late hn (Int.le_refl _), List.drop_zero, show from_ - 1 + 1 = from_ by omega, valAt_eq h]
  congr 1
  by_cases ht : to_ ≤ 1099511627776
  · rw [partL_sorted hn _ _ (by omega), lo_full (l := l) (t := 1099511627776 + 1) (fun c hc => by have := hm c hc; omega), List.take_length]
  · rw [partL_none (fun c hc => by have := hm c hc; omega), lo_full (fun c hc => by have := hm c hc; omega), List.drop_length]


set_option maxHeartbeats 3200000 in
set_option maxRecDepth 100000 in
theorem ref_Put (k n : Int) (v : Value) (l : List Ch) (from_ to_ : Int) (s : ByteArray) (w : World) (hs : SlR w v l.length (chs l)) (hf : Fit l) (hss : s.size ≤ 1000000) :
    Calls Tryz.prog 32 #[.agg #[.int .i64 k, .int .i64 n, v], .int .i64 from_, .int .i64 to_, .string s] w (SigPost (putR k n l from_ to_ s) w) := by
  obtain ⟨a, cap, rfl, hc, hm⟩ := hs.shape
  have hst := EdSt.start w k n a l.length cap 24
  have HV := Lib.hid (ref_sValid k n _ l _ (hs.below hst.b) hf)
  have HST := Lib.hid hst
  have HS := Lib.hid hs
  unfold maxLen at hm
  clear hs hf hst
  cases hv : sv k n l
  · have HR := Lib.hid (show putR k n l from_ to_ s = ((0, 0, []), 1) by unfold putR; rw [if_pos hv])
    rw [hv] at HV
    clear hv
    go_enter Tryz.func32, Tryz.ntmps32
    go_wp2_with fail
    refine HV.out.mono ?_
    rintro e w1 ⟨rfl, hb⟩
    have H1 := Lib.hid (HST.out.later hb (by simp))
    clear hb
    obtain ⟨⟨c0, c1, c2⟩, ⟨p0, p1, p2⟩, ⟨q0, q1, q2⟩⟩ := (H1.out).facts
    go_wp2_with fail
    obtain ⟨⟨e0, e1, e2⟩, hbb⟩ := (H1.out).fin (.int .i64 0) (.int .i64 0) (.slice none 0 0)
    refine bodyPost_ret (v := .tuple #[.agg #[.int .i64 0, .int .i64 0, .slice none 0 0], .int .i64 1]) (by simp [results, Tryz.results32, go_sem, e0, e1, e2]) rfl ?_
    rw [HR.out]
    exact SigPost.zero 1 hbb
  have HR1 : Hid (putR k n l from_ to_ s = if k = 3 then ((0, 0, []), 7) else if from_ < 0 ∨ to_ ≤ from_ ∨ 1099511627777 < to_ then ((0, 0, []), 2) else if vv k n s = false then ((0, 0, []), 1) else madeR k n (putL k n l from_ to_ s)) := Lib.hid (by unfold putR; rw [if_neg (by rw [hv]; simp)])
  have hll := (sv_iff.1 hv).2.1
  have HSV := Lib.hid hv
  rw [hv] at HV
  clear hv
  by_cases hk3 : k = 3
  · have HR := Lib.hid (show putR k n l from_ to_ s = ((0, 0, []), 7) by rw [HR1.out, if_pos hk3])
    have hkb : (k == 3) = true := by rw [beq_iff_eq]; exact hk3
    clear hk3 HR1
    go_enter Tryz.func32, Tryz.ntmps32
    go_wp2_with fail
    refine HV.out.mono ?_
    rintro e w1 ⟨rfl, hb⟩
    have H1 := Lib.hid (HST.out.later hb (by simp))
    clear hb
    obtain ⟨⟨c0, c1, c2⟩, ⟨p0, p1, p2⟩, ⟨q0, q1, q2⟩⟩ := (H1.out).facts
    go_wp2_with fail
    obtain ⟨⟨e0, e1, e2⟩, hbb⟩ := (H1.out).fin (.int .i64 0) (.int .i64 0) (.slice none 0 0)
    refine bodyPost_ret (v := .tuple #[.agg #[.int .i64 0, .int .i64 0, .slice none 0 0], .int .i64 7]) (by simp [results, Tryz.results32, go_sem, e0, e1, e2]) rfl ?_
    rw [HR.out]
    exact SigPost.zero 7 hbb
  have hkb : (k == 3) = false := by rw [beq_eq_false_iff_ne]; exact hk3
  have HR2 := Lib.hid (HR1.out.trans (if_neg hk3))
  clear hk3 HR1
  by_cases hr : from_ < 0 ∨ to_ ≤ from_ ∨ 1099511627777 < to_
  · have HR := Lib.hid (show putR k n l from_ to_ s = ((0, 0, []), 2) by rw [HR2.out, if_pos hr])
    have hr3 : from_ < 0 ∨ (0 ≤ from_ ∧ to_ ≤ from_) ∨ (0 ≤ from_ ∧ from_ < to_ ∧ 1099511627777 < to_) := by omega
    clear hr HR2
    rcases hr3 with h1 | ⟨h1, h2⟩ | ⟨h1, h2, h3⟩
    all_goals
      go_enter Tryz.func32, Tryz.ntmps32
      go_wp2_with fail
      refine HV.out.mono ?_
      rintro e w1 ⟨rfl, hb⟩
      have H1 := Lib.hid (HST.out.later hb (by simp))
      clear hb
      obtain ⟨⟨c0, c1, c2⟩, ⟨p0, p1, p2⟩, ⟨q0, q1, q2⟩⟩ := (H1.out).facts
      go_wp2_with fail
      obtain ⟨⟨e0, e1, e2⟩, hbb⟩ := (H1.out).fin (.int .i64 0) (.int .i64 0) (.slice none 0 0)
      refine bodyPost_ret (v := .tuple #[.agg #[.int .i64 0, .int .i64 0, .slice none 0 0], .int .i64 2]) (by simp [results, Tryz.results32, go_sem, e0, e1, e2]) rfl ?_
      rw [HR.out]
      exact SigPost.zero 2 hbb
  have HR3 := Lib.hid (HR2.out.trans (if_neg hr))
  obtain ⟨h0, h1, h2⟩ : 0 ≤ from_ ∧ from_ < to_ ∧ to_ ≤ 1099511627777 := by omega
  clear hr HR2
  have HVV := Lib.hid (fun W => ref_vValid k n s W (by unfold maxLen; omega))
  go_enter Tryz.func32, Tryz.ntmps32
  go_wp2_with fail
  refine HV.out.mono ?_
  rintro e w1 ⟨rfl, hb⟩
  have H1 := Lib.hid (HST.out.later hb (by simp))
  clear hb HST
  obtain ⟨⟨c0, c1, c2⟩, ⟨p0, p1, p2⟩, ⟨q0, q1, q2⟩⟩ := (H1.out).facts
  go_wp2_with fail
  refine (HVV.out _).mono ?_
  rintro e w2 ⟨rfl, hb⟩
  have H2 := Lib.hid (H1.out.later hb H1.out.z)
  clear hb c0 c1 c2 p0 p1 p2 q0 q1 q2
  obtain ⟨⟨c0, c1, c2⟩, ⟨p0, p1, p2⟩, ⟨q0, q1, q2⟩⟩ := (H2.out).facts
  cases hvv : vv k n s
  · have HR := Lib.hid (show putR k n l from_ to_ s = ((0, 0, []), 1) by rw [HR3.out, if_pos hvv])
    clear hvv HR3
    go_wp2_with fail
    obtain ⟨⟨e0, e1, e2⟩, hbb⟩ := (H2.out).fin (.int .i64 0) (.int .i64 0) (.slice none 0 0)
    refine bodyPost_ret (v := .tuple #[.agg #[.int .i64 0, .int .i64 0, .slice none 0 0], .int .i64 1]) (by simp [results, Tryz.results32, go_sem, e0, e1, e2]) rfl ?_
    rw [HR.out]
    exact SigPost.zero 1 hbb
  have HR := Lib.hid (show putR k n l from_ to_ s = madeR k n (putL k n l from_ to_ s) by rw [HR3.out, if_neg (by rw [hvv]; simp)])
  have HPL := Lib.hid (put_list HSV.out s h0 h2)
  clear hvv HR3
  have HS2 := Lib.hid (HS.out.below H2.out.b)
  have hz2 := H2.out.z
  obtain ⟨i0, hi, iz0, iz1, iz2⟩ := info_parts (P := Tryz.prog) change_info
  have hwf : IntKind.i64.wrap (from_ - 1) = from_ - 1 := IntWalk.i64_in _ (by omega)
  go_wp2_with fail
  refine (ref_Part _ l 0 (from_ - 1) _ HS2.out (by omega)).mono ?_
  rintro e w3 ⟨v3, rfl, ho, hb⟩
  have hl3 := partL_len l 0 (from_ - 1)
  generalize partL l 0 (from_ - 1) = r3 at ho HPL hl3 ⊢
  obtain ⟨a3, c3, rfl, -, -⟩ := (SlR.of_own ho).shape
  have HO3 := Lib.hid ho
  have HB3 := Lib.hid hb
  have H3 := Lib.hid (H2.out.later hb hz2)
  clear ho hb c0 c1 c2 p0 p1 p2 q0 q1 q2
  go_wp2_with (at_builtin; refine wpList_append_own _ rfl _ _ 22 rfl w2.heap.size 36 i0 (.agg #[.int .i64 0, .string ⟨#[]⟩]) 2 24 Tryz.underlying22 hi iz0 iz1 iz2 rfl (by decide) _ _ _ rfl (World.ownsRow.alloc (by exact HO3.out) _) ⟨w3.heap.size, 0, none⟩ 1 1 [.int .i64 from_, .string s] rfl rfl (World.news_of_block (cs := #[.int .i64 from_, .string s]) (t := 36) (fr := (0, 0)) (by exact heap_alloc_new w3 _)) (by simp [Value.oneCell']) (by unfold maxLen; omega) (by omega) (by have := HB3.out.size; simp; omega) ?_)
  intro v4 w4 ho hg _
  have hb4 : Below w2.heap.size w2 w4 := (HB3.out.alloc HB3.out.size _).grown hg (by have := HB3.out.size; simp; omega) (fun q hq => (HO3.out.lt q hq).1)
  obtain ⟨r5, hr5⟩ : ∃ r5, r5 = r3 ++ [(from_, s)] := ⟨_, rfl⟩
  have ho5 : w4.ownsRow w2.heap.size 36 2 v4 r5.length (chs r5) := by rw [hr5, chs_append]; simpa [chs, encC] using ho
  have hl5 : r5.length ≤ 5000 := by rw [hr5]; simp; omega
  rw [← hr5] at HPL
  obtain ⟨a5, c5, rfl, -, -⟩ := (SlR.of_own ho5).shape
  have HO5 := Lib.hid ho5
  have HB5 := Lib.hid hb4
  have H5 := Lib.hid (H2.out.later hb4 hz2)
  clear ho hg hb4 hr5 ho5 H3 HO3 HB3
  go_upto_if 54 with fail
  go_cut [10] (fun s10 wc => ∃ (a1 : Option Addr) (c1 : Nat) (r : List Ch), r = r5 ++ (if to_ ≤ 1099511627776 then [(to_, val (vi k n) l to_)] else []) ∧ s10 = .slice a1 r.length c1 ∧ wc.ownsRow w2.heap.size 36 2 s10 r.length (chs r) ∧ Below w2.heap.size w2 wc)
  case first =>
    by_cases hto : to_ ≤ 1099511627776
    · have HT := Lib.hid hto
      obtain ⟨⟨c0, c1, c2⟩, ⟨p0, p1, p2⟩, ⟨q0, q1, q2⟩⟩ := (H5.out).facts
      go_wp2_with fail
      refine (ref_Value k n _ l to_ _ (HS2.out.below HB5.out)).mono ?_
      rintro e w6 ⟨rfl, hb6⟩
      obtain ⟨x, hx⟩ : ∃ x, x = val (vi k n) l to_ := ⟨_, rfl⟩
      rw [← hx]
      have HX := Lib.hid hx
      clear hx
      have ho6 := (HO5.out).kept (row := none) (w' := w6) ⟨hb6.os, hb6.tape, hb6.output, hb6.size, fun i hi _ => hb6.block i hi⟩ (by cases a5 with | none => exact .inl rfl | some ad => exact .inr (by simp [Value.ownBlock]))
      have HO6 := Lib.hid ho6
      have HB6 := Lib.hid (HB5.out.trans (hb6.mono HB5.out.size))
      clear ho6 hb6 c0 c1 c2 p0 p1 p2 q0 q1 q2
      go_wp2_with (at_builtin; refine wpList_append_own _ rfl _ _ 22 rfl w2.heap.size 36 i0 (.agg #[.int .i64 0, .string ⟨#[]⟩]) 2 24 Tryz.underlying22 hi iz0 iz1 iz2 rfl (by decide) _ _ _ rfl (World.ownsRow.alloc (by exact HO6.out) _) ⟨w6.heap.size, 0, none⟩ 1 1 [.int .i64 to_, .string x] rfl rfl (World.news_of_block (cs := #[.int .i64 to_, .string x]) (t := 36) (fr := (0, 0)) (by exact heap_alloc_new w6 _)) (by simp [Value.oneCell']) (by unfold maxLen; omega) (by omega) (by have := HB6.out.size; simp; omega) ?_)
      intro v7 w7 ho7 hg7 _
      obtain ⟨a7, c7, rfl, -, -⟩ := (SlR.of_own ho7).shape
      have hb7 : Below w2.heap.size w2 w7 := (HB6.out.alloc HB6.out.size _).grown hg7 (by have := HB6.out.size; simp; omega) (fun q hq => (HO6.out.lt q hq).1)
      have HO7 := Lib.hid ho7
      have HB7 := Lib.hid hb7
      clear ho7 hg7 hb7
      go_wp2_with fail
      go_meet
      case rel => exact ⟨a7, c7, r5 ++ [(to_, x)], by rw [if_pos HT.out, HX.out], by simp, by have := HO7.out; rw [chs_append]; simpa [chs, encC] using this, HB7.out⟩
    · have HT := Lib.hid hto
      go_wp2_with fail
      go_meet
      case rel => exact ⟨a5, c5, r5, by rw [if_neg (by have := HT.out; omega)]; simp, rfl, HO5.out, HB5.out⟩
  case rest =>
    obtain ⟨a6, c6, r, hr, rfl, ho7, hb7⟩ := hcut
    have hl7 : r.length ≤ 6000 := by rw [hr]; split <;> simp <;> omega
    obtain ⟨m, hmm⟩ : ∃ m, m = partL l (to_ + 1) 1099511627776 := ⟨_, rfl⟩
    have hlm : m.length ≤ 5000 := by rw [hmm]; have := partL_len l (to_ + 1) 1099511627776; omega
    have HRM := Lib.hid (show madeR k n (r ++ m) = putR k n l from_ to_ s by rw [HR.out, ← HPL.out, hr, hmm])
    have HPT := Lib.hid (fun W hS => ref_Part (.slice a l.length cap) l (to_ + 1) 1099511627776 W hS (by omega))
    rw [← hmm] at HPT
    have H7 := Lib.hid (H2.out.later hb7 hz2)
    have HO7 := Lib.hid ho7
    have HB7 := Lib.hid hb7
    have HS7 := Lib.hid (HS2.out.below hb7)
    have hwrap : IntKind.i64.wrap (to_ + 1) = to_ + 1 := IntWalk.i64_in _ (by omega)
    clear hr ho7 hb7 hmm H5 HO5 HB5 HPL HR
    obtain ⟨⟨c0, c1, c2⟩, ⟨p0, p1, p2⟩, ⟨q0, q1, q2⟩⟩ := (H7.out).facts
    go_upto_region 12 with fail
    go_region_held3 (fun w' => w'.cell? ⟨w.heap.size, 0, none⟩ = some (.int .i64 k) ∧ w'.cell? ⟨w.heap.size, 1, none⟩ = some (.int .i64 n) ∧ w'.cell? ⟨w.heap.size, 2, none⟩ = some (.slice a l.length cap)) (first | exact ⟨v0, v1, v2⟩ | exact ⟨r0, r1, r2⟩ | exact ⟨s0, s1, s2⟩ | go_keep)
      (first
        | (go_at_call 59; (with_reducible refine (HPT.out wc.drew ?_).mono ?_); (exact HS7.out); rintro e w8 ⟨v8, rfl, ho8, hb8⟩; obtain ⟨a8, c8, rfl, -, -⟩ := (SlR.of_own ho8).shape; have HP8 := Lib.hid (SlR.of_own ho8); have HB8 := Lib.hid (HB7.out.drew.trans (hb8.mono HB7.out.size)); have HO8 := Lib.hid ((HO7.out.drew).kept (row := none) (w' := w8) ⟨hb8.os, hb8.tape, hb8.output, hb8.size, fun i hi _ => hb8.block i hi⟩ (by cases a6 with | none => exact .inl rfl | some ad => exact .inr (by simp [Value.ownBlock]))); have s0 := (hb8.cell (p := ⟨w.heap.size, 0, none⟩) (cell_lt c0)).trans c0; have s1 := (hb8.cell (p := ⟨w.heap.size, 1, none⟩) (cell_lt c0)).trans c1; have s2 := (hb8.cell (p := ⟨w.heap.size, 2, none⟩) (cell_lt c0)).trans c2; clear hb8 ho8)
        | ((refine step_append_sl _ (by rfl) _ _ _ (by rfl) w2.heap.size 36 i0 (.agg #[.int .i64 0, .string ⟨#[]⟩]) 2 24 Tryz.underlying22 hi iz0 iz1 iz2 rfl (by decide) (.slice a6 r.length c6) r.length (chs r) (by rfl) (by exact HO8.out)
              _ m.length _ (chs m) (by rfl) (by exact HP8.out) (by rw [chs_len, Nat.mul_comm]) (chs_one _) (by unfold maxLen; omega) (by omega) (by exact HB8.out.size) ?_); intro a9 c9 w9 ho9 hg9; have HB9 := Lib.hid (HB8.out.grown hg9 HB8.out.size (fun q hq => (HO8.out.lt q hq).1)); have HS9 := Lib.hid (slr_two a9 c9 r m ho9); clear ho9 hg9; have H9 := Lib.hid (H2.out.later HB9.out hz2); have r0 := H9.out.s.cell (j := 0) rfl; have r1 := H9.out.s.cell (j := 1) rfl; have r2 := H9.out.s.cell (j := 2) rfl)
        | (go_at_call 51; (with_reducible refine (ref_build k n _ (r ++ m) _ ?_ ?_).mono ?_); (exact HS9.out); (rw [List.length_append]; omega); rintro e w10 ⟨v10, rfl, ho10, hb10⟩; obtain ⟨a10, c10, rfl, -, -⟩ := (SlR.of_own ho10).shape; have HO10 := Lib.hid ho10; have HB10 := Lib.hid (HB9.out.trans (hb10.mono HB9.out.size)); clear ho10 hb10; have H10 := Lib.hid (H2.out.later HB10.out hz2); have v0 := H10.out.s.cell (j := 0) rfl; have v1 := H10.out.s.cell (j := 1) rfl; have v2 := H10.out.s.cell (j := 2) rfl; have x0 := H10.out.r.cell (j := 0) rfl; have x1 := H10.out.r.cell (j := 1) rfl; have x2 := H10.out.r.cell (j := 2) rfl; have y0 := H10.out.r.free (j := 0) (by simp); have y1 := H10.out.r.free (j := 1) (by simp); have y2 := H10.out.r.free (j := 2) (by simp)))
    all_goals go_wp2_with fail
    all_goals try (simp only [Exit.then]; apply_assumption; go_wp2_with fail)
    all_goals
      obtain ⟨⟨g0, g1, g2⟩, hbb⟩ := H10.out.fin (.int .i64 (madeR k n (r ++ m)).1.1) (.int .i64 (madeR k n (r ++ m)).1.2.1) (.slice a10 (madeR k n (r ++ m)).1.2.2.length c10)
      refine bodyPost_ret (v := .tuple #[.agg #[.int .i64 (madeR k n (r ++ m)).1.1, .int .i64 (madeR k n (r ++ m)).1.2.1, .slice a10 (madeR k n (r ++ m)).1.2.2.length c10], .int .i64 (madeR k n (r ++ m)).2]) (by simp [results, Tryz.results32, go_sem, g0, g1, g2]) rfl ?_
      rw [← HRM.out]
      exact ⟨_, rfl, ownsRow_base (ownsRow_set3 HO10.out (by have := HB9.out.size; omega) _ _ _) (by have := HB9.out.size; omega), hbb⟩
end Go.Proofs.YtlbcfmhpkcpmaaaGreatDoor
