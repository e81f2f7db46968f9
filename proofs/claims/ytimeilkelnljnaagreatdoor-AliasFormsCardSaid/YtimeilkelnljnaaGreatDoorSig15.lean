import Derived.Test.YtimeilkelnljnaaGreatDoorSig14
namespace Go.Proofs.YtimeilkelnljnaaGreatDoor
open Go.RowKit

/-- the boxes of Slice: the signal, two numbers, the result -/
structure SlSt (w W : World) (k n : Int) (a : Option Addr) (len cap : Nat) (x y : Value) : Prop where
  s : OwnRow W w.heap.size [.int .i64 k, .int .i64 n, .slice a len cap]
  x : OwnRow W (w.heap.size + 1) [x]
  y : OwnRow W (w.heap.size + 1 + 1) [y]
  r : OwnRow W (w.heap.size + 1 + 1 + 1) [.int .i64 0, .int .i64 0, .slice none 0 0]
  b : Below w.heap.size w W
  z : w.heap.size + 1 + 1 + 1 < W.heap.size
theorem SlSt.start (w : World) (k n : Int) (a : Option Addr) (len cap : Nat) (x y : Value) (S T U : TypeId) : SlSt w ((((w.alloc (.cells #[.int .i64 k, .int .i64 n, .slice a len cap] S)).alloc (.cells #[x] T)).alloc (.cells #[y] U)).alloc (.cells #[.int .i64 0, .int .i64 0, .slice none 0 0] S)) k n a len cap x y := by
  refine ⟨?_, ?_, ?_, ?_, ((((Below.refl _ _).alloc (Nat.le_refl _) _).alloc (by simp) _).alloc (by simp; omega) _).alloc (by simp; omega) _, by simp⟩
  · exact (((OwnRow.fresh w #[.int .i64 k, .int .i64 n, .slice a len cap] _).alloc (by simp) _).alloc (by simp; omega) _).alloc (by simp; omega) _
  · have h := OwnRow.fresh (w.alloc (.cells #[.int .i64 k, .int .i64 n, .slice a len cap] S)) #[x] T
    simp only [World.size_alloc] at h
    exact (h.alloc (by simp) _).alloc (by simp) _
  · have h := OwnRow.fresh ((w.alloc (.cells #[.int .i64 k, .int .i64 n, .slice a len cap] S)).alloc (.cells #[x] T)) #[y] U
    simp only [World.size_alloc] at h
    exact h.alloc (by simp) _
  · have h := OwnRow.fresh (((w.alloc (.cells #[.int .i64 k, .int .i64 n, .slice a len cap] S)).alloc (.cells #[x] T)).alloc (.cells #[y] U)) #[.int .i64 0, .int .i64 0, .slice none 0 0] S
    simp only [World.size_alloc] at h
    exact h
theorem SlSt.later {w W W' : World} {k n : Int} {a : Option Addr} {len cap : Nat} {x y : Value} (h : SlSt w W k n a len cap x y) {B : Nat} (hb : Below B W W') (hB : w.heap.size + 1 + 1 + 1 < B) : SlSt w W' k n a len cap x y :=
  ⟨h.s.below hb (by omega), h.x.below hb (by omega), h.y.below hb (by omega), h.r.below hb hB, h.b.trans (hb.mono (by omega)), by have := hb.size; have := h.z; omega⟩
theorem SlSt.facts {w W : World} {k n : Int} {a : Option Addr} {len cap : Nat} {x y : Value} (h : SlSt w W k n a len cap x y) :
    (W.cell? ⟨w.heap.size, 0, none⟩ = some (.int .i64 k) ∧ W.cell? ⟨w.heap.size, 1, none⟩ = some (.int .i64 n) ∧ W.cell? ⟨w.heap.size, 2, none⟩ = some (.slice a len cap)) ∧ (W.cell? ⟨w.heap.size + 1, 0, none⟩ = some x ∧ W.cell? ⟨w.heap.size + 1 + 1, 0, none⟩ = some y) ∧
    (W.cell? ⟨w.heap.size + 1 + 1 + 1, 0, none⟩ = some (.int .i64 0) ∧ W.cell? ⟨w.heap.size + 1 + 1 + 1, 1, none⟩ = some (.int .i64 0) ∧ W.cell? ⟨w.heap.size + 1 + 1 + 1, 2, none⟩ = some (.slice none 0 0)) ∧
    (W.frozen? ⟨w.heap.size + 1 + 1 + 1, 0, none⟩ = false ∧ W.frozen? ⟨w.heap.size + 1 + 1 + 1, 1, none⟩ = false ∧ W.frozen? ⟨w.heap.size + 1 + 1 + 1, 2, none⟩ = false) :=
  ⟨⟨h.s.cell (j := 0) rfl, h.s.cell (j := 1) rfl, h.s.cell (j := 2) rfl⟩, ⟨h.x.cell (j := 0) rfl, h.y.cell (j := 0) rfl⟩, ⟨h.r.cell (j := 0) rfl, h.r.cell (j := 1) rfl, h.r.cell (j := 2) rfl⟩, ⟨h.r.free (j := 0) (by simp), h.r.free (j := 1) (by simp), h.r.free (j := 2) (by simp)⟩⟩
theorem SlSt.fin {w W : World} {k n : Int} {a : Option Addr} {len cap : Nat} {xv yv : Value} (h : SlSt w W k n a len cap xv yv) (x y z : Value) :
    (((((W.setCell ⟨w.heap.size + 1 + 1 + 1, 0, none⟩ x).setCell ⟨w.heap.size + 1 + 1 + 1, 1, none⟩ y).setCell ⟨w.heap.size + 1 + 1 + 1, 2, none⟩ z).cell? ⟨w.heap.size + 1 + 1 + 1, 0, none⟩ = some x ∧ (((W.setCell ⟨w.heap.size + 1 + 1 + 1, 0, none⟩ x).setCell ⟨w.heap.size + 1 + 1 + 1, 1, none⟩ y).setCell ⟨w.heap.size + 1 + 1 + 1, 2, none⟩ z).cell? ⟨w.heap.size + 1 + 1 + 1, 1, none⟩ = some y ∧ (((W.setCell ⟨w.heap.size + 1 + 1 + 1, 0, none⟩ x).setCell ⟨w.heap.size + 1 + 1 + 1, 1, none⟩ y).setCell ⟨w.heap.size + 1 + 1 + 1, 2, none⟩ z).cell? ⟨w.heap.size + 1 + 1 + 1, 2, none⟩ = some z)) ∧
      Below w.heap.size w (((W.setCell ⟨w.heap.size + 1 + 1 + 1, 0, none⟩ x).setCell ⟨w.heap.size + 1 + 1 + 1, 1, none⟩ y).setCell ⟨w.heap.size + 1 + 1 + 1, 2, none⟩ z) :=
  ⟨set3 (h.r.cell (j := 0) rfl) (h.r.cell (j := 1) rfl) (h.r.cell (j := 2) rfl) x y z, below_set3' h.b (by omega) _ _ _⟩

/-- what Slice returns -/
def sliceR (k n : Int) (l : List Ch) (from_ width : Int) : SigR :=
  if sv k n l = false then ((0, 0, []), 1) else if k ≠ 0 then ((0, 0, []), 7) else if (slR (vi k n) from_ width).2 ≠ 0 then ((0, 0, []), 2) else madeR k width (eachL (btG (slB from_ width)) l)

set_option maxHeartbeats 1600000 in
set_option maxRecDepth 100000 in
theorem sig_Slice (k n : Int) (v : Value) (l : List Ch) (from_ width : Int) (w : World) (hg : Glob w) (hs : SlR w v l.length (chs l)) (hf : Fit l) :
    Calls Tryz.prog 24 #[.agg #[.int .i64 k, .int .i64 n, v], .int .i64 from_, .int .i64 width] w (SigPost (sliceR k n l from_ width) w) := by
  obtain ⟨a, cap, rfl, hc, hm⟩ := hs.shape
  have hst := SlSt.start w k n a l.length cap (.int .i64 from_) (.int .i64 width) 37 3 3
  have HV := Lib.hid (sig_Valid k n _ l _ (hg.below hst.b) (hs.below hst.b) hf)
  have HST := Lib.hid hst
  have HS := Lib.hid hs
  have hln := hf.1
  have HF := Lib.hid hf.2
  unfold maxLen at hm
  clear hg hs hf hst
  go_enter Tryz.func24, Tryz.ntmps24
  go_wp2_with fail
  refine HV.out.mono ?_
  rintro e w1 ⟨rfl, hb⟩
  have h1 := HST.out.later hb HST.out.z
  obtain ⟨⟨c0, c1, c2⟩, ⟨x0, y0⟩, ⟨r0, r1, r2⟩, q0, q1, q2⟩ := h1.facts
  have H1 := Lib.hid h1
  have hz1 := h1.z
  clear hb h1 HST
  cases hv : sv k n l
  · have HR := Lib.hid (show sliceR k n l from_ width = ((0, 0, []), 1) by unfold sliceR; rw [if_pos hv])
    clear hv
    go_wp2_with fail
    obtain ⟨⟨e0, e1, e2⟩, hb⟩ := H1.out.fin (.int .i64 0) (.int .i64 0) (.slice none 0 0)
    refine bodyPost_ret (v := .tuple #[.agg #[.int .i64 0, .int .i64 0, .slice none 0 0], .int .i64 1]) (by simp [results, Tryz.results24, go_sem, e0, e1, e2]) rfl ?_
    rw [HR.out]
    exact SigPost.zero 1 hb
  by_cases hk : k ≠ 0
  · have HR := Lib.hid (show sliceR k n l from_ width = ((0, 0, []), 7) by unfold sliceR; rw [if_neg (by rw [hv]; simp), if_pos hk])
    have hkb : (k != 0) = true := by rw [bne_iff_ne]; exact hk
    clear hv hk
    go_wp2_with fail
    obtain ⟨⟨e0, e1, e2⟩, hb⟩ := H1.out.fin (.int .i64 0) (.int .i64 0) (.slice none 0 0)
    refine bodyPost_ret (v := .tuple #[.agg #[.int .i64 0, .int .i64 0, .slice none 0 0], .int .i64 7]) (by simp [results, Tryz.results24, go_sem, e0, e1, e2]) rfl ?_
    rw [HR.out]
    exact SigPost.zero 7 hb
  have HR0 := Lib.hid (show sliceR k n l from_ width = if (slR (vi k n) from_ width).2 ≠ 0 then ((0, 0, []), 2) else madeR k width (eachL (btG (slB from_ width)) l) by unfold sliceR; rw [if_neg (by rw [hv]; simp), if_neg hk])
  have hkb : (k != 0) = false := by rw [bne_eq_false_iff_eq]; omega
  have hvs := vi_size k n
  clear hv hk
  have HI := Lib.hid (val_Initial k n w1.drew)
  generalize vi k n = s0 at HR0 hvs HI
  go_upto_region 5 with fail
  go_region_held3 (fun w' => w'.cell? ⟨w.heap.size, 0, none⟩ = some (.int .i64 k) ∧ w'.cell? ⟨w.heap.size, 1, none⟩ = some (.int .i64 n) ∧ w'.cell? ⟨w.heap.size + 1, 0, none⟩ = some (.int .i64 from_) ∧ w'.cell? ⟨w.heap.size + 1 + 1, 0, none⟩ = some (.int .i64 width))
    (first | exact ⟨v0, v1, vx, vy⟩ | exact ⟨u0, u1, ux, uy⟩ | go_keep)
    (first
      | (go_at_call 44; (with_reducible refine HI.out.mono ?_); rintro e w2 ⟨rfl, hb2⟩; have h2 := H1.out.later (below_undrew hb2) H1.out.z; obtain ⟨⟨u0, u1, u2⟩, ⟨ux, uy⟩, -⟩ := h2.facts; have H2 := Lib.hid h2; clear hb2 h2)
      | (go_at_call 47; (with_reducible refine (bits_Slice s0 from_ width _ ?_).mono ?_); (unfold maxLen; omega); rintro e w3 ⟨rfl, hb3⟩; have h3 := H2.out.later hb3 H2.out.z; obtain ⟨⟨v0, v1, v2⟩, ⟨vx, vy⟩, ⟨t0, t1, t2⟩, s0', s1', s2'⟩ := h3.facts; have H3 := Lib.hid h3; clear hb3 h3))
  by_cases he : (slR s0 from_ width).2 ≠ 0
  · have HR := Lib.hid (HR0.out.trans (if_pos he))
    have heb : ((slR s0 from_ width).2 != 0) = true := by rw [bne_iff_ne]; exact he
    clear he
    go_wp2_with fail
    obtain ⟨⟨e0, e1, e2⟩, hb⟩ := H3.out.fin (.int .i64 0) (.int .i64 0) (.slice none 0 0)
    refine bodyPost_ret (v := .tuple #[.agg #[.int .i64 0, .int .i64 0, .slice none 0 0], .int .i64 2]) (by simp [results, Tryz.results24, go_sem, e0, e1, e2]) rfl ?_
    rw [HR.out]
    exact SigPost.zero 2 hb
  · have HR := Lib.hid (HR0.out.trans (if_neg he))
    have heb : ((slR s0 from_ width).2 != 0) = false := by rw [bne_eq_false_iff_eq]; omega
    clear he
    have HE := Lib.hid (sig_bits (.func 63) #[] #[.pointer (some ⟨w.heap.size + 1, 0, none⟩), .pointer (some ⟨w.heap.size + 1 + 1, 0, none⟩)] (btG (slB from_ width)) k n width _ l w3 (HS.out.below H3.out.b) hln (fun c hc W p hp hW => sig_bits1_sl (w.heap.size + 1) (w.heap.size + 1 + 1) from_ width p c W hp
      ((hW.cell (p := ⟨w.heap.size + 1, 0, none⟩) (cell_lt vx)).trans vx) ((hW.cell (p := ⟨w.heap.size + 1 + 1, 0, none⟩) (cell_lt vy)).trans vy) (by have := HF.out c hc; unfold maxLen; omega)))
    go_wp2_with fail
    refine HE.out.mono ?_
    rintro e w9 ⟨v9, rfl, ho9, hb9⟩
    obtain ⟨a9, c9, rfl, -, -⟩ := (SlR.of_own ho9).shape
    have H9 := Lib.hid (H3.out.later hb9 H3.out.z)
    clear t0 t1 t2 s0' s1' s2'
    obtain ⟨-, -, ⟨t0, t1, t2⟩, s0', s1', s2'⟩ := H9.out.facts
    have HO9 := Lib.hid ho9
    have hz3 := H3.out.z
    clear ho9 hb9
    go_wp2_with fail
    generalize hmd : madeR k width (eachL (btG (slB from_ width)) l) = R at *
    obtain ⟨⟨e0, e1, e2⟩, hb9⟩ := H9.out.fin (.int .i64 R.1.1) (.int .i64 R.1.2.1) (.slice a9 R.1.2.2.length c9)
    refine bodyPost_ret (v := .tuple #[.agg #[.int .i64 R.1.1, .int .i64 R.1.2.1, .slice a9 R.1.2.2.length c9], .int .i64 R.2]) (by simp [results, Tryz.results24, go_sem, e0, e1, e2]) rfl ?_
    rw [HR.out]
    exact ⟨_, rfl, ownsRow_base (ownsRow_set3 HO9.out hz3 _ _ _) (by omega), hb9⟩
end Go.Proofs.YtimeilkelnljnaaGreatDoor
