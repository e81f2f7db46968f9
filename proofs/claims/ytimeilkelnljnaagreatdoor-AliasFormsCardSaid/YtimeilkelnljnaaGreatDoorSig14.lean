import Derived.Test.YtimeilkelnljnaaGreatDoorSig13
namespace Go.Proofs.YtimeilkelnljnaaGreatDoor
open Go.RowKit

set_option maxHeartbeats 1600000 in
set_option maxRecDepth 100000 in
theorem sig_bits (fo : Fn) (fx fy : Array Value) (g : Ch → Ch × Bool) (k n width : Int) (v : Value) (l : List Ch) (w : World) (hs : SlR w v l.length (chs l)) (hl : l.length ≤ 1000000)
    (hF : ∀ c ∈ l, ∀ W p, W.cell? ⟨p, 0, none⟩ = some (.func fo fx fy) → Below w.heap.size w W → Calls Tryz.prog 84 #[.agg #[.int .i64 c.1, .string c.2], .pointer (some ⟨p, 0, none⟩)] W fun e w' => e = .returned (.tuple #[.agg #[.int .i64 (g c).1.1, .string (g c).1.2], .bool (g c).2]) ∧ Below W.heap.size W w') :
    Calls Tryz.prog 62 #[.agg #[.int .i64 k, .int .i64 n, v], .int .i64 width, .func fo fx fy] w (SigPost (madeR k width (eachL g l)) w) := by
  obtain ⟨a, cap, rfl, hc, hm⟩ := hs.shape
  have hst := ShSt.start w k n a l.length cap (.func fo fx fy) 37 70
  have HE := Lib.hid (sig_eachB (w.heap.size + 1) g k n width _ l _ (hs.below hst.b) hl (fun c hc W hW => hF c hc W (w.heap.size + 1) ((hW.cell (p := ⟨w.heap.size + 1, 0, none⟩) (by have := hst.z; show w.heap.size + 1 < _; omega)).trans hst.facts.2.1) (hst.b.trans (hW.mono (by have := hst.z; omega)))))
  obtain ⟨⟨c0, c1, c2⟩, y0, ⟨r0, r1, r2⟩, q0, q1, q2⟩ := hst.facts
  have HST := Lib.hid hst
  clear hs hF hst
  go_enter Tryz.func62, Tryz.ntmps62
  go_wp2_with fail
  refine HE.out.mono ?_
  rintro e w9 ⟨v9, rfl, ho9, hb9⟩
  obtain ⟨a9, c9, rfl, -, -⟩ := (SlR.of_own ho9).shape
  have H9 := Lib.hid (HST.out.later hb9 HST.out.z)
  obtain ⟨⟨z0, z1, z2⟩, zy, ⟨t0, t1, t2⟩, u0, u1, u2⟩ := H9.out.facts
  have HO9 := Lib.hid ho9
  clear ho9 hb9
  go_wp2_with fail
  obtain ⟨⟨e0, e1, e2⟩, hb9⟩ := H9.out.fin (.int .i64 (madeR k width (eachL g l)).1.1) (.int .i64 (madeR k width (eachL g l)).1.2.1) (.slice a9 (madeR k width (eachL g l)).1.2.2.length c9)
  refine bodyPost_ret (v := .tuple #[.agg #[.int .i64 (madeR k width (eachL g l)).1.1, .int .i64 (madeR k width (eachL g l)).1.2.1, .slice a9 (madeR k width (eachL g l)).1.2.2.length c9], .int .i64 (madeR k width (eachL g l)).2]) (by simp [results, Tryz.results62, go_sem, e0, e1, e2]) rfl ?_
  exact ⟨_, rfl, ownsRow_base (ownsRow_set3 HO9.out HST.out.z _ _ _) (by have := HST.out.z; omega), hb9⟩

theorem vi_size (k n : Int) : (vi k n).size ≤ 128 := by
  unfold vi
  split
  · split
    · unfold allR
      split
      · simp [ByteArray.size]
      · simp [ByteArray.size]; omega
    · split
      · simp [ByteArray.size]
      · simp [ByteArray.size]
  · simp [ByteArray.size]

/-- what Invert returns -/
def invR (k n : Int) (l : List Ch) : SigR := if sv k n l = false then ((0, 0, []), 1) else if k ≠ 0 then ((0, 0, []), 7) else madeR k n (eachL (btG bvInv) l)

set_option maxHeartbeats 1600000 in
set_option maxRecDepth 100000 in
theorem sig_Invert (k n : Int) (v : Value) (l : List Ch) (w : World) (hg : Glob w) (hs : SlR w v l.length (chs l)) (hf : Fit l) :
    Calls Tryz.prog 25 #[.agg #[.int .i64 k, .int .i64 n, v]] w (SigPost (invR k n l) w) := by
  obtain ⟨a, cap, rfl, hc, hm⟩ := hs.shape
  have hbw : Below w.heap.size w ((w.alloc (.cells #[.int .i64 k, .int .i64 n, .slice a l.length cap] 37)).alloc (.cells #[.int .i64 0, .int .i64 0, .slice none 0 0] 37)) := ((Below.refl _ _).alloc (Nat.le_refl _) _).alloc (by simp) _
  have HV := Lib.hid (sig_Valid k n _ l _ (hg.below hbw) (hs.below hbw) hf)
  have HS := Lib.hid hs
  have hln := hf.1
  have HF := Lib.hid hf.2
  unfold maxLen at hm
  clear hg hs hf hbw
  go_enter Tryz.func25, Tryz.ntmps25
  go_wp2_with fail
  refine HV.out.mono ?_
  rintro e w1 ⟨rfl, hb⟩
  have hb0 : Below (w.alloc (.cells #[.int .i64 k, .int .i64 n, .slice a l.length cap] 37)).heap.size (w.alloc (.cells #[.int .i64 k, .int .i64 n, .slice a l.length cap] 37)) w1 := ext_alloc hb
  obtain ⟨c0, c1, c2⟩ := box3 hb0
  obtain ⟨⟨p0, p1, p2⟩, q0, q1, q2⟩ := box3r hb
  have HB := Lib.hid (ext_alloc hb0)
  have hsz : w.heap.size + 1 < w1.heap.size := by have := hb.size; simp at this; omega
  clear hb hb0
  cases hv : sv k n l
  · have HR := Lib.hid (show invR k n l = ((0, 0, []), 1) by unfold invR; rw [if_pos hv])
    clear hv
    go_wp2_with fail
    refine bodyPost_ret (v := .tuple #[.agg #[.int .i64 0, .int .i64 0, .slice none 0 0], .int .i64 1]) (by simp [results, Tryz.results25, go_sem, p0, p1, p2]) rfl ?_
    rw [HR.out]
    exact SigPost.zero 1 (below_set3' HB.out (by omega) _ _ _)
  by_cases hk : k ≠ 0
  · have HR := Lib.hid (show invR k n l = ((0, 0, []), 7) by unfold invR; rw [if_neg (by rw [hv]; simp), if_pos hk])
    have hkb : (k != 0) = true := by rw [bne_iff_ne]; exact hk
    clear hv hk
    go_wp2_with fail
    refine bodyPost_ret (v := .tuple #[.agg #[.int .i64 0, .int .i64 0, .slice none 0 0], .int .i64 7]) (by simp [results, Tryz.results25, go_sem, p0, p1, p2]) rfl ?_
    rw [HR.out]
    exact SigPost.zero 7 (below_set3' HB.out (by omega) _ _ _)
  · have HR := Lib.hid (show invR k n l = madeR k n (eachL (btG bvInv) l) by unfold invR; rw [if_neg (by rw [hv]; simp), if_neg hk])
    have hkb : (k != 0) = false := by rw [bne_eq_false_iff_eq]; omega
    have HE := Lib.hid (sig_bits (.func 48) #[] #[] (btG bvInv) k n n _ l w1 (HS.out.below HB.out) hln (fun c hc W p hp hW => sig_bits1_inv p c W hp (by have := HF.out c hc; unfold maxLen; omega)))
    clear hv hk
    go_wp2_with fail
    refine HE.out.mono ?_
    rintro e w9 ⟨v9, rfl, ho9, hb9⟩
    obtain ⟨a9, c9, rfl, -, -⟩ := (SlR.of_own ho9).shape
    obtain ⟨x0, x1, x2, y0, y1, y2⟩ := boxKeep hb9 (cell_lt p0) p0 p1 p2 q0 q1 q2
    have HO9 := Lib.hid ho9
    have HB9 := Lib.hid (ext_trans HB.out hb9)
    clear ho9 hb9 p0 p1 p2 q0 q1 q2 c0 c1 c2
    go_wp2_with fail
    obtain ⟨g0, g1, g2⟩ := set3 x0 x1 x2 (.int .i64 (madeR k n (eachL (btG bvInv) l)).1.1) (.int .i64 (madeR k n (eachL (btG bvInv) l)).1.2.1) (.slice a9 (madeR k n (eachL (btG bvInv) l)).1.2.2.length c9)
    refine bodyPost_ret (v := .tuple #[.agg #[.int .i64 (madeR k n (eachL (btG bvInv) l)).1.1, .int .i64 (madeR k n (eachL (btG bvInv) l)).1.2.1, .slice a9 (madeR k n (eachL (btG bvInv) l)).1.2.2.length c9], .int .i64 (madeR k n (eachL (btG bvInv) l)).2]) (by simp [results, Tryz.results25, go_sem, g0, g1, g2]) rfl ?_
    rw [HR.out]
    exact ⟨_, rfl, ownsRow_base (ownsRow_set3 HO9.out (by omega) _ _ _) (by omega), below_set3' HB9.out (by omega) _ _ _⟩
end Go.Proofs.YtimeilkelnljnaaGreatDoor
