import Derived.Test.YtlbcfmhpkcpmaaaGreatDoorSig15
namespace Go.Proofs.YtlbcfmhpkcpmaaaGreatDoor
open Go.RowKit

/-- the boxes of Splice: two signals, the result -/
structure SpSt (w W : World) (k n : Int) (a : Option Addr) (la ca : Nat) (k2 n2 : Int) (b : Option Addr) (lb cb : Nat) : Prop where
  s : OwnRow W w.heap.size [.int .i64 k, .int .i64 n, .slice a la ca]
  y : OwnRow W (w.heap.size + 1) [.int .i64 k2, .int .i64 n2, .slice b lb cb]
  r : OwnRow W (w.heap.size + 1 + 1) [.int .i64 0, .int .i64 0, .slice none 0 0]
  b : Below w.heap.size w W
  z : w.heap.size + 1 + 1 < W.heap.size
section
variable {w W W' : World} {k n : Int} {a : Option Addr} {la ca : Nat} {k2 n2 : Int} {b : Option Addr} {lb cb : Nat}
theorem SpSt.start (w : World) (k n : Int) (a : Option Addr) (la ca : Nat) (k2 n2 : Int) (b : Option Addr) (lb cb : Nat) (S : TypeId) : SpSt w (((w.alloc (.cells #[.int .i64 k, .int .i64 n, .slice a la ca] S)).alloc (.cells #[.int .i64 k2, .int .i64 n2, .slice b lb cb] S)).alloc (.cells #[.int .i64 0, .int .i64 0, .slice none 0 0] S)) k n a la ca k2 n2 b lb cb := by
  refine ⟨?_, ?_, ?_, (((Below.refl _ _).alloc (Nat.le_refl _) _).alloc (by simp) _).alloc (by simp; omega) _, by simp⟩
  · exact ((OwnRow.fresh w #[.int .i64 k, .int .i64 n, .slice a la ca] _).alloc (by simp) _).alloc (by simp; omega) _
  · have h := OwnRow.fresh (w.alloc (.cells #[.int .i64 k, .int .i64 n, .slice a la ca] S)) #[.int .i64 k2, .int .i64 n2, .slice b lb cb] S
    simp only [World.size_alloc] at h
    exact h.alloc (by simp) _
  · have h := OwnRow.fresh ((w.alloc (.cells #[.int .i64 k, .int .i64 n, .slice a la ca] S)).alloc (.cells #[.int .i64 k2, .int .i64 n2, .slice b lb cb] S)) #[.int .i64 0, .int .i64 0, .slice none 0 0] S
    simp only [World.size_alloc] at h
    exact h
theorem SpSt.later (h : SpSt w W k n a la ca k2 n2 b lb cb) {B : Nat} (hb : Below B W W') (hB : w.heap.size + 1 + 1 < B) : SpSt w W' k n a la ca k2 n2 b lb cb :=
  ⟨h.s.below hb (by omega), h.y.below hb (by omega), h.r.below hb hB, h.b.trans (hb.mono (by omega)), by have := hb.size; have := h.z; omega⟩
theorem SpSt.facts (h : SpSt w W k n a la ca k2 n2 b lb cb) :
    (W.cell? ⟨w.heap.size, 0, none⟩ = some (.int .i64 k) ∧ W.cell? ⟨w.heap.size, 1, none⟩ = some (.int .i64 n) ∧ W.cell? ⟨w.heap.size, 2, none⟩ = some (.slice a la ca)) ∧
    (W.cell? ⟨w.heap.size + 1, 0, none⟩ = some (.int .i64 k2) ∧ W.cell? ⟨w.heap.size + 1, 1, none⟩ = some (.int .i64 n2) ∧ W.cell? ⟨w.heap.size + 1, 2, none⟩ = some (.slice b lb cb)) ∧
    (W.cell? ⟨w.heap.size + 1 + 1, 0, none⟩ = some (.int .i64 0) ∧ W.cell? ⟨w.heap.size + 1 + 1, 1, none⟩ = some (.int .i64 0) ∧ W.cell? ⟨w.heap.size + 1 + 1, 2, none⟩ = some (.slice none 0 0)) ∧
    (W.frozen? ⟨w.heap.size + 1 + 1, 0, none⟩ = false ∧ W.frozen? ⟨w.heap.size + 1 + 1, 1, none⟩ = false ∧ W.frozen? ⟨w.heap.size + 1 + 1, 2, none⟩ = false) :=
  ⟨⟨h.s.cell (j := 0) rfl, h.s.cell (j := 1) rfl, h.s.cell (j := 2) rfl⟩, ⟨h.y.cell (j := 0) rfl, h.y.cell (j := 1) rfl, h.y.cell (j := 2) rfl⟩, ⟨h.r.cell (j := 0) rfl, h.r.cell (j := 1) rfl, h.r.cell (j := 2) rfl⟩, ⟨h.r.free (j := 0) (by simp), h.r.free (j := 1) (by simp), h.r.free (j := 2) (by simp)⟩⟩
theorem SpSt.fin (h : SpSt w W k n a la ca k2 n2 b lb cb) (x y z : Value) :
    (((((W.setCell ⟨w.heap.size + 1 + 1, 0, none⟩ x).setCell ⟨w.heap.size + 1 + 1, 1, none⟩ y).setCell ⟨w.heap.size + 1 + 1, 2, none⟩ z).cell? ⟨w.heap.size + 1 + 1, 0, none⟩ = some x ∧ (((W.setCell ⟨w.heap.size + 1 + 1, 0, none⟩ x).setCell ⟨w.heap.size + 1 + 1, 1, none⟩ y).setCell ⟨w.heap.size + 1 + 1, 2, none⟩ z).cell? ⟨w.heap.size + 1 + 1, 1, none⟩ = some y ∧ (((W.setCell ⟨w.heap.size + 1 + 1, 0, none⟩ x).setCell ⟨w.heap.size + 1 + 1, 1, none⟩ y).setCell ⟨w.heap.size + 1 + 1, 2, none⟩ z).cell? ⟨w.heap.size + 1 + 1, 2, none⟩ = some z)) ∧
      Below w.heap.size w (((W.setCell ⟨w.heap.size + 1 + 1, 0, none⟩ x).setCell ⟨w.heap.size + 1 + 1, 1, none⟩ y).setCell ⟨w.heap.size + 1 + 1, 2, none⟩ z) :=
  ⟨set3 (h.r.cell (j := 0) rfl) (h.r.cell (j := 1) rfl) (h.r.cell (j := 2) rfl) x y z, below_set3' h.b (by omega) _ _ _⟩
end
theorem slr_take {W : World} {a : Option Addr} {cap : Nat} {l : List Ch} (h : SlR W (.slice a l.length cap) l.length (chs l)) (i : Nat) (hi : i ≤ l.length) : SlR W (.slice a i cap) (l.take i).length (chs (l.take i)) := by
  rw [show (l.take i).length = i by rw [List.length_take]; omega]
  obtain ⟨a', c', hv, h3, h4⟩ := h.shape
  injection hv with _ _ e3
  subst e3
  rw [show chs l = chs (l.take i) ++ chs (l.drop i) by rw [← chs_append, List.take_append_drop]] at h
  exact h.cut hi (by omega) (Nat.le_refl _)

/-- is a change put at the seam -/
def spC (k : Int) (m : List Ch) (t : Int) : Bool := decide (k ≠ 3) && (decide (t ≤ 1099511627776) && (match m[lo m t]? with | none => true | some c => decide (t < c.1)))
def spL (k n : Int) (l m : List Ch) (t : Int) : List Ch := l.take (lo l t) ++ (if spC k m t = true then [(t, valAt k n m t)] else []) ++ m.drop (lo m t)
def spliceR (k n : Int) (l : List Ch) (k2 n2 : Int) (m : List Ch) (t : Int) : SigR :=
  if sv k n l = false ∨ sv k2 n2 m = false then ((0, 0, []), 1) else if k ≠ k2 ∨ n ≠ n2 then ((0, 0, []), 7) else if t < 0 ∨ 1099511627777 < t then ((0, 0, []), 2) else madeR k n (spL k n l m t)

set_option maxHeartbeats 3200000 in
set_option maxRecDepth 100000 in
theorem sig_Splice (k n k2 n2 : Int) (v u : Value) (l m : List Ch) (t : Int) (w : World) (hg : Glob w) (hs : SlR w v l.length (chs l)) (hf : Fit l) (hs2 : SlR w u m.length (chs m)) (hf2 : Fit m) :
    Calls Tryz.prog 33 #[.agg #[.int .i64 k, .int .i64 n, v], .agg #[.int .i64 k2, .int .i64 n2, u], .int .i64 t] w (SigPost (spliceR k n l k2 n2 m t) w) := by
  obtain ⟨a, cap, rfl, hc, hm⟩ := hs.shape
  obtain ⟨a2, cap2, rfl, hc2, hm2⟩ := hs2.shape
  have hst := SpSt.start w k n a l.length cap k2 n2 a2 m.length cap2 24
  have HV := Lib.hid (sig_Valid k n _ l _ (hg.below hst.b) (hs.below hst.b) hf)
  have HST := Lib.hid hst
  have HS := Lib.hid hs
  have HS2 := Lib.hid hs2
  have HG := Lib.hid hg
  have HF2 := Lib.hid hf2
  have hln := hf.1
  have hln2 := hf2.1
  unfold maxLen at hm hm2
  clear hg hs hf hs2 hf2 hst
  go_enter Tryz.func33, Tryz.ntmps33
  go_wp2_with fail
  refine HV.out.mono ?_
  rintro e w1 ⟨rfl, hb⟩
  have h1 := HST.out.later hb HST.out.z
  obtain ⟨⟨c0, c1, c2⟩, ⟨x0, x1, x2⟩, ⟨r0, r1, r2⟩, q0, q1, q2⟩ := h1.facts
  have H1 := Lib.hid h1
  have hz1 := h1.z
  clear hb h1 HST
  cases hv : sv k n l
  · have HR := Lib.hid (show spliceR k n l k2 n2 m t = ((0, 0, []), 1) by unfold spliceR; rw [if_pos (.inl hv)])
    clear hv
    go_wp2_with fail
    obtain ⟨⟨e0, e1, e2⟩, hb⟩ := H1.out.fin (.int .i64 0) (.int .i64 0) (.slice none 0 0)
    refine bodyPost_ret (v := .tuple #[.agg #[.int .i64 0, .int .i64 0, .slice none 0 0], .int .i64 1]) (by simp [results, Tryz.results33, go_sem, e0, e1, e2]) rfl ?_
    rw [HR.out]
    exact SigPost.zero 1 hb
  have HV2 := Lib.hid (sig_Valid k2 n2 _ m _ (HG.out.below H1.out.b) (HS2.out.below H1.out.b) HF2.out)
  have HSV := Lib.hid hv
  clear hv
  go_wp2_with fail
  refine HV2.out.mono ?_
  rintro e w2 ⟨rfl, hb⟩
  have h2 := H1.out.later hb H1.out.z
  clear c0 c1 c2 x0 x1 x2 r0 r1 r2 q0 q1 q2 hz1
  obtain ⟨⟨c0, c1, c2⟩, ⟨x0, x1, x2⟩, ⟨r0, r1, r2⟩, q0, q1, q2⟩ := h2.facts
  have H2 := Lib.hid h2
  have hz2 := h2.z
  clear hb h2 H1
  cases hv2 : sv k2 n2 m
  · have HR := Lib.hid (show spliceR k n l k2 n2 m t = ((0, 0, []), 1) by unfold spliceR; rw [if_pos (.inr hv2)])
    clear hv2
    go_wp2_with fail
    obtain ⟨⟨e0, e1, e2⟩, hb⟩ := H2.out.fin (.int .i64 0) (.int .i64 0) (.slice none 0 0)
    refine bodyPost_ret (v := .tuple #[.agg #[.int .i64 0, .int .i64 0, .slice none 0 0], .int .i64 1]) (by simp [results, Tryz.results33, go_sem, e0, e1, e2]) rfl ?_
    rw [HR.out]
    exact SigPost.zero 1 hb
  have HSV2 := Lib.hid hv2
  clear hv2
  have HR1 := Lib.hid (show spliceR k n l k2 n2 m t = if k ≠ k2 ∨ n ≠ n2 then ((0, 0, []), 7) else if t < 0 ∨ 1099511627777 < t then ((0, 0, []), 2) else madeR k n (spL k n l m t) by
    unfold spliceR; rw [if_neg (by rw [HSV.out, HSV2.out]; simp)])
  by_cases hk : k ≠ k2
  · have HR := Lib.hid (HR1.out.trans (if_pos (.inl hk)))
    have hkb : (k != k2) = true := by rw [bne_iff_ne]; exact hk
    clear hk
    go_wp2_with fail
    obtain ⟨⟨e0, e1, e2⟩, hb⟩ := H2.out.fin (.int .i64 0) (.int .i64 0) (.slice none 0 0)
    refine bodyPost_ret (v := .tuple #[.agg #[.int .i64 0, .int .i64 0, .slice none 0 0], .int .i64 7]) (by simp [results, Tryz.results33, go_sem, e0, e1, e2]) rfl ?_
    rw [HR.out]
    exact SigPost.zero 7 hb
  have hkb : (k != k2) = false := by rw [bne_eq_false_iff_eq]; omega
  by_cases hn : n ≠ n2
  · have HR := Lib.hid (HR1.out.trans (if_pos (.inr hn)))
    have hnb : (n != n2) = true := by rw [bne_iff_ne]; exact hn
    clear hn hk
    go_wp2_with fail
    obtain ⟨⟨e0, e1, e2⟩, hb⟩ := H2.out.fin (.int .i64 0) (.int .i64 0) (.slice none 0 0)
    refine bodyPost_ret (v := .tuple #[.agg #[.int .i64 0, .int .i64 0, .slice none 0 0], .int .i64 7]) (by simp [results, Tryz.results33, go_sem, e0, e1, e2]) rfl ?_
    rw [HR.out]
    exact SigPost.zero 7 hb
  have hnb : (n != n2) = false := by rw [bne_eq_false_iff_eq]; omega
  have HR2 := Lib.hid (HR1.out.trans (if_neg (fun h => h.elim hk hn)))
  obtain rfl : k2 = k := by omega
  obtain rfl : n2 = n := by omega
  clear hk hn
  by_cases hr : t < 0 ∨ 1099511627777 < t
  · have HR := Lib.hid (HR2.out.trans (if_pos hr))
    rcases hr with hr | hr
    · go_wp2_with fail
      obtain ⟨⟨e0, e1, e2⟩, hb⟩ := H2.out.fin (.int .i64 0) (.int .i64 0) (.slice none 0 0)
      refine bodyPost_ret (v := .tuple #[.agg #[.int .i64 0, .int .i64 0, .slice none 0 0], .int .i64 2]) (by simp [results, Tryz.results33, go_sem, e0, e1, e2]) rfl ?_
      rw [HR.out]
      exact SigPost.zero 2 hb
    · go_wp2_with fail
      obtain ⟨⟨e0, e1, e2⟩, hb⟩ := H2.out.fin (.int .i64 0) (.int .i64 0) (.slice none 0 0)
      refine bodyPost_ret (v := .tuple #[.agg #[.int .i64 0, .int .i64 0, .slice none 0 0], .int .i64 2]) (by simp [results, Tryz.results33, go_sem, e0, e1, e2]) rfl ?_
      rw [HR.out]
      exact SigPost.zero 2 hb
  have HR := Lib.hid (HR2.out.trans (if_neg hr))
  obtain ⟨ht0, ht1⟩ : 0 ≤ t ∧ t ≤ 1099511627777 := by omega
  clear hr
  obtain ⟨hst, hl4, -, -⟩ := sv_sorted HSV.out
  obtain ⟨hst2, hl42, -, -⟩ := sv_sorted HSV2.out
  have HST := Lib.hid hst
  have HST2 := Lib.hid hst2
  clear hst hst2
  have HF := Lib.hid (sig_first k2 n2 _ m t w2 (HS2.out.below H2.out.b) hln2 HST2.out)
  go_wp2_with fail
  refine HF.out.mono ?_
  rintro e w3 ⟨rfl, hb⟩
  have h3 := H2.out.later hb H2.out.z
  clear c0 c1 c2 x0 x1 x2 r0 r1 r2 q0 q1 q2 hz2
  obtain ⟨⟨c0, c1, c2⟩, ⟨x0, x1, x2⟩, ⟨r0, r1, r2⟩, q0, q1, q2⟩ := h3.facts
  have H3 := Lib.hid h3
  have hz3 := h3.z
  clear hb h3 H2
  have hlo1 := lo_le l t
  have hlo2 := lo_le m t
  have hlz : (0 : Int) ≤ ((lo l t : Nat) : Int) := by omega
  have hlz2 : ((lo l t : Nat) : Int) ≤ (l.length : Int) := by omega
  have hlz3 : ((lo l t : Nat) : Int) ≤ (cap : Int) := by omega
  have HTK := Lib.hid (fun (W : World) (h : SlR W (.slice a l.length cap) l.length (chs l)) => slr_take h (lo l t) hlo1)
  have hr5l : (l.take (lo l t)).length ≤ 4096 := by rw [List.length_take]; omega
  obtain ⟨r5, hr5⟩ : ∃ r5, l.take (lo l t) = r5 := ⟨_, rfl⟩
  rw [hr5] at HTK hr5l
  have HR5 := Lib.hid hr5
  clear hr5
  go_upto_region 8 with fail
  go_region_held3 (fun w' => w'.cell? ⟨w.heap.size, 0, none⟩ = some (.int .i64 k2) ∧ w'.cell? ⟨w.heap.size, 1, none⟩ = some (.int .i64 n2) ∧ w'.cell? ⟨w.heap.size, 2, none⟩ = some (.slice a l.length cap))
    (first | exact ⟨v0, v1, v2⟩ | exact ⟨u0, u1, u2⟩ | go_keep)
    (first
      | (go_at_call 57; (with_reducible refine (sig_first k2 n2 _ l t w3.drew ?_ hln HST.out).mono ?_); (exact HS.out.below H3.out.b.drew); rintro e w4 ⟨rfl, hb4⟩; have h4 := H3.out.later (below_undrew hb4) H3.out.z; obtain ⟨⟨u0, u1, u2⟩, -⟩ := h4.facts; have H4 := Lib.hid h4; have hz4 := hb4.size; clear hb4 h4)
      | (go_at_call 58; (with_reducible refine (clone_ch _ r5 _ ?_ ?_).mono ?_); (exact HTK.out _ (HS.out.below H4.out.b)); (exact Nat.le_trans hr5l (by decide)); rintro e w5 ⟨v5, rfl, ho5, hb5⟩; obtain ⟨a5, c5, rfl, -, -⟩ := (SlR.of_own ho5).shape; have h5 := H4.out.later hb5 H4.out.z; obtain ⟨⟨v0, v1, v2⟩, ⟨y0, y1, y2⟩, ⟨t0, t1, t2⟩, z0, z1, z2⟩ := h5.facts; have H5 := Lib.hid h5; have HO5 := Lib.hid (ownsRow_base (base' := w3.heap.size) ho5 hz4); have hz35' := Nat.le_trans hz4 hb5.size; clear hb5 h5 ho5))
  have hz35 : w3.heap.size ≤ w5.heap.size := hz35'
  obtain ⟨i0, hi, iz0, iz1, iz2⟩ := info_parts (P := Tryz.prog) change_info
  clear u0 u1 u2 c0 c1 c2 x0 x1 x2 r0 r1 r2 q0 q1 q2 hz35'
  go_upto_region 9 with fail
  go_cut [75] (fun v wc => v = .bool (spC k2 m t) ∧ wc = w5)
  case first =>
    by_cases hk3 : k2 = 3
    · have HSPC := Lib.hid (show spC k2 m t = false by simp [spC, hk3])
      have hkb3 : (k2 != 3) = false := by rw [bne_eq_false_iff_eq]; exact hk3
      clear hk3
      go_wp2_with fail
      go_meet
      case rel => exact ⟨by rw [HSPC.out], rfl⟩
    have hkb3 : (k2 != 3) = true := by rw [bne_iff_ne]; exact hk3
    by_cases htm : 1099511627776 < t
    · have HSPC := Lib.hid (show spC k2 m t = false by simp [spC]; omega)
      clear hk3
      go_wp2_with fail
      go_meet
      case rel => exact ⟨by rw [HSPC.out], rfl⟩
    have htm' : t ≤ 1099511627776 := by omega
    by_cases hlm : lo m t < m.length
    · have hlb : (((lo m t : Nat) : Int) == ((m.length : Nat) : Int)) = false := by rw [beq_eq_false_iff_ne]; omega
      have hlz4 : ((lo m t : Nat) : Int) < ((m.length : Nat) : Int) := by omega
      obtain ⟨b, o, rfl, d0, d1⟩ := (HS2.out.below H5.out.b).ch hlm
      have hsp : spC k2 m t = decide (t < m[lo m t].1) := by
        unfold spC
        rw [List.getElem?_eq_getElem hlm]
        simp [hk3, htm']
      generalize m[lo m t] = c at d0 d1 hsp
      obtain ⟨tc, sc⟩ := c
      dsimp only at d0 d1 hsp
      have HSPC := Lib.hid hsp
      clear hk3 htm hsp
      go_wp2_with fail
      go_meet
      case rel => exact ⟨by rw [HSPC.out], rfl⟩
    · have hlb : (((lo m t : Nat) : Int) == ((m.length : Nat) : Int)) = true := by rw [beq_iff_eq]; omega
      have HSPC := Lib.hid (show spC k2 m t = true by
        unfold spC
        rw [List.getElem?_eq_none (by omega)]
        simp [hk3, htm'])
      clear hk3 htm hlm
      go_wp2_with fail
      go_meet
      case rel => exact ⟨by rw [HSPC.out], rfl⟩
  case rest =>
  obtain ⟨rfl, hwc⟩ := hcut
  have hwc2 := hwc.symm
  subst hwc2
  go_upto_if 75 with fail
  go_cut [9] (fun v wc => ∃ (a6 : Option Addr) (c6 : Nat) (r : List Ch), r = r5 ++ (if spC k2 m t = true then [(t, valAt k2 n2 m t)] else []) ∧ r.length ≤ 4097 ∧ v = .slice a6 r.length c6 ∧ wc.ownsRow w3.heap.size 36 2 (.slice a6 r.length c6) r.length (chs r) ∧ w3.heap.size ≤ wc.heap.size ∧ SpSt w wc k2 n2 a l.length cap k2 n2 a2 m.length cap2)
  case first =>
    cases hsp : spC k2 m t
    · have HSPC := Lib.hid hsp
      clear hsp
      go_wp2_with fail
      go_meet
      case rel => exact ⟨a5, c5, r5, by rw [HSPC.out]; simp, by omega, rfl, HO5.out, hz35, H5.out⟩
    · have HSPC := Lib.hid hsp
      clear hsp
      have HA := Lib.hid (sig_at k2 n2 _ m t w5 (HS2.out.below H5.out.b) hln2 HST2.out (by omega) (by omega))
      generalize valAt k2 n2 m t = vA at *
      go_wp2_with fail
      refine HA.out.mono ?_
      rintro e w6 ⟨rfl, hb6⟩
      have h6 := H5.out.later hb6 H5.out.z
      have hz6 := hb6.size
      have HO6 := Lib.hid (HO5.out.kept (w' := w6) (row := none) ⟨hb6.os, hb6.tape, hb6.output, hb6.size, fun i hi _ => hb6.block i hi⟩ (by cases a5 with | none => exact .inl rfl | some ad => exact .inr (by simp [Value.ownBlock])))
      have H6 := Lib.hid h6
      clear hb6 h6
      go_wp2_with (at_builtin; refine wpList_append_own _ rfl _ _ 22 rfl w3.heap.size 36 i0 (.agg #[.int .i64 0, .string ⟨#[]⟩]) 2 24 Tryz.underlying22 hi iz0 iz1 iz2 rfl (by decide) _ _ _ rfl (HO6.out.alloc _) ⟨w6.heap.size, 0, none⟩ 1 1 [.int .i64 t, .string vA] rfl rfl (World.news_of_block (cs := #[.int .i64 t, .string vA]) (t := 36) (fr := (0, 0)) (heap_alloc_new w6 _)) (by simp [Value.oneCell']) (by unfold maxLen; omega) (by omega) (by simp; omega) ?_)
      intro v7 w7 ho7 hg7 _
      obtain ⟨a7, c7, rfl, -, -⟩ := (SlR.of_own ho7).shape
      have hb7 : Below w3.heap.size w6 w7 := ((Below.refl w3.heap.size w6).alloc (by omega) _).grown hg7 (by simp; omega) (fun q hq => (HO6.out.lt q hq).1)
      have H7 := Lib.hid (H6.out.later hb7 hz3)
      have HO7 := Lib.hid ho7
      have hz7 := hb7.size
      clear ho7 hg7 hb7
      go_wp2_with fail
      go_meet
      case rel => exact ⟨a7, c7, r5 ++ [(t, vA)], by rw [HSPC.out]; simp, by simp; omega, by simp, by have := HO7.out; rw [chs_append]; simpa [chs, encC] using this, by omega, H7.out⟩
  case rest =>
    obtain ⟨a6, c6, r, hr, hrl, rfl, ho6, hz6, h6⟩ := hcut
    have HO6 := Lib.hid ho6
    have H6 := Lib.hid h6
    have HR7 := Lib.hid (show r ++ m.drop (lo m t) = spL k2 n2 l m t by rw [hr, ← HR5.out]; rfl)
    have HS7 := Lib.hid (HS2.out.below h6.b)
    clear hr ho6 y0 y1 y2 t0 t1 t2 z0 z1 z2 v0 v1 v2
    obtain ⟨⟨v0, v1, v2⟩, ⟨y0, y1, y2⟩, ⟨t0, t1, t2⟩, z0, z1, z2⟩ := h6.facts
    clear h6
    have hdl : (m.drop (lo m t)).length ≤ 4096 := by simp; omega
    have hmz2 : ((lo m t : Nat) : Int) ≤ (m.length : Int) := by omega
    have hmz : (0 : Int) ≤ ((lo m t : Nat) : Int) := by omega
    have hn1 : w.heap.size ≠ w.heap.size + 1 + 1 := by omega
    have hn2 : w.heap.size + 1 + 1 ≠ w.heap.size := by omega
    go_upto_region 11 with fail
    go_region_held3 (fun w' => w'.cell? ⟨w.heap.size, 0, none⟩ = some (.int .i64 k2) ∧ w'.cell? ⟨w.heap.size, 1, none⟩ = some (.int .i64 n2) ∧ w'.cell? ⟨w.heap.size + 1, 2, none⟩ = some (.slice a2 m.length cap2)) (first | exact ⟨f0, f1, f2⟩ | exact ⟨r0, r1, r2⟩ | go_keep | exact ⟨(World.cell?_setCell_other (h := by intro e; injection e with e1 _ _; omega)).trans ((World.cell?_setCell_other (h := by intro e; injection e with e1 _ _; omega)).trans ((World.cell?_setCell_other (h := by intro e; injection e with e1 _ _; omega)).trans f0)), (World.cell?_setCell_other (h := by intro e; injection e with e1 _ _; omega)).trans ((World.cell?_setCell_other (h := by intro e; injection e with e1 _ _; omega)).trans ((World.cell?_setCell_other (h := by intro e; injection e with e1 _ _; omega)).trans f1)), (World.cell?_setCell_other (h := by intro e; injection e with e1 _ _; omega)).trans ((World.cell?_setCell_other (h := by intro e; injection e with e1 _ _; omega)).trans ((World.cell?_setCell_other (h := by intro e; injection e with e1 _ _; omega)).trans f2))⟩)
      (first
        | (go_at_call 47; (with_reducible refine (sig_made k2 n2 _ (r ++ m.drop (lo m t)) _ ?_ ?_).mono ?_); (exact HS9.out); (rw [List.length_append]; omega); rintro e w10 ⟨v10, rfl, ho10, hb10⟩; obtain ⟨a10, c10, rfl, -, -⟩ := (SlR.of_own ho10).shape; have h10 := H9.out.later hb10 H9.out.z; obtain ⟨⟨f0, f1, -⟩, ⟨-, -, f2⟩, ⟨g0, g1, g2⟩, j0, j1, j2⟩ := h10.facts; have HO10 := Lib.hid ho10; have H10 := Lib.hid h10; clear ho10 hb10 h10)
        | ((refine step_append_sl _ (by rfl) _ _ _ (by rfl) w3.heap.size 36 i0 (.agg #[.int .i64 0, .string ⟨#[]⟩]) 2 24 Tryz.underlying22 hi iz0 iz1 iz2 rfl (by decide) (.slice a6 r.length c6) r.length (chs r) (by rfl) (by exact HO6.out)
              _ (m.length - lo m t) _ (chs (m.drop (lo m t))) (by rfl) (HS7.out.rest _ hlo2) (by rw [chs_len, List.length_drop, Nat.mul_comm]) (chs_one _) (by unfold maxLen; omega) (by omega) (by exact hz6) ?_); intro a9 c9 w9 ho9 hg9; have hb9 := (Below.refl w3.heap.size wc).drew.grown hg9 hz6 (fun q hq => (HO6.out.lt q hq).1); have h9 := H6.out.later hb9 hz3; have HS9 := Lib.hid (slr_join a9 c9 r m (lo m t) ho9); obtain ⟨⟨r0, r1, -⟩, ⟨-, -, r2⟩, -⟩ := h9.facts; have H9 := Lib.hid h9; clear ho9 hg9 hb9 h9; generalize (if cap2 = lo m t then a2 else Option.map (fun x => x.add (lo m t * 2)) a2) = az))
    all_goals go_wp2_with fail
    all_goals
      generalize hmd : madeR k2 n2 (r ++ m.drop (lo m t)) = R at *
      obtain ⟨⟨e0, e1, e2⟩, hb9⟩ := H10.out.fin (.int .i64 R.1.1) (.int .i64 R.1.2.1) (.slice a10 R.1.2.2.length c10)
      refine bodyPost_ret (v := .tuple #[.agg #[.int .i64 R.1.1, .int .i64 R.1.2.1, .slice a10 R.1.2.2.length c10], .int .i64 R.2]) (by simp [results, Tryz.results33, go_sem, e0, e1, e2]) rfl ?_
      rw [HR.out, ← HR7.out, hmd]
      exact ⟨_, rfl, ownsRow_base (ownsRow_set3 HO10.out H9.out.z _ _ _) (by have := H9.out.z; omega), hb9⟩
end Go.Proofs.YtlbcfmhpkcpmaaaGreatDoor
