import Derived.Test.YtbiadennhnokhaaGreatDoorZ37
import Derived.BigQuiet
/- The methods of a source of a trace. -/
namespace Go.Proofs.YtbiadennhnokhaaGreatDoor
open Go.RowKit
set_option linter.unusedSimpArgs false

/-- is it a signal, and a time in a range -/
def hasS (t : Tr) (n tm lo hi : Int) : Bool := decide (0 ≤ n) && decide (n < (t.G.length : Int)) && decide (lo ≤ tm) && decide (tm ≤ hi)
def srcKind (t : Tr) (n : Int) : Int × Int × Int := if hasS t n 0 0 0 = true then ((sgI t.G n).1, (sgI t.G n).2.1, 0) else (0, 0, 2)
def srcVal (t : Tr) (n tm : Int) : ByteArray × Int := if hasS t n tm 0 t.en = true then atR (sgI t.G n).1 (sgI t.G n).2.1 (sgI t.G n).2.2 tm else (⟨#[]⟩, 2)
def srcNext (t : Tr) (n tm : Int) : Ch × Int := if hasS t n tm (-1) t.en = true then nextR (sgI t.G n).1 (sgI t.G n).2.1 (sgI t.G n).2.2 tm else ((0, ⟨#[]⟩), 2)
def srcPrev (t : Tr) (n tm : Int) : Ch × Int := if hasS t n tm 0 (t.en + 1) = true then prevR (sgI t.G n).1 (sgI t.G n).2.1 (sgI t.G n).2.2 tm else ((0, ⟨#[]⟩), 2)
def srcWin (t : Tr) (n a b : Int) : List Ch × Int := if hasS t n a 0 b = true ∧ b ≤ t.en then (winR (sgI t.G n).1 (sgI t.G n).2.1 (sgI t.G n).2.2 a b, 0) else ([], 2)
theorem TrM.sg {w : World} {t : Tr} {p : TP} (h : TrM w t p) {j : Nat} (hj : j < p.M.length) : sgI t.G (j : Int) = p.M[j].1 := by
  unfold sgI
  rw [← h.m]
  simp [List.getD, hj]
theorem hasS_iff {t : Tr} {n tm lo hi : Int} : hasS t n tm lo hi = true ↔ 0 ≤ n ∧ n < (t.G.length : Int) ∧ lo ≤ tm ∧ tm ≤ hi := by
  unfold hasS
  simp only [Bool.and_eq_true, decide_eq_true_iff, and_assoc]
/-- what a source's trace is -/
structure SrcB (t : Tr) : Prop where
  f : ∀ s ∈ t.G, Fit s.2.2
  e : -1 ≤ t.en ∧ t.en ≤ 1099511627776
abbrev boxT (t : Tr) (a1 a2 a3 a4 : Option Addr) (k1 k2 k3 k4 : Nat) : Array Value := #[.int .i64 t.sc, .string (bsB t.dt), .string (bsB t.vn), .string (bsB t.cm), .slice a1 t.S.length k1, .slice a2 t.V.length k2, .slice a3 t.G.length k3, .slice a4 t.P.length k4, .int .i64 t.en]
theorem TrM.open {w : World} {t : Tr} {p : TP} (h : TrM w t p) : ∃ a1 k1 a2 k2 a3 k3 a4 k4, p.v t = .agg (boxT t a1 a2 a3 a4 k1 k2 k3 k4) ∧ p.vs = .slice a1 t.S.length k1 ∧ p.vv = .slice a2 t.V.length k2 ∧ p.vg = .slice a3 p.M.length k3 ∧ p.vp = .slice a4 t.P.length k4 ∧ t.G.length ≤ k3 ∧ k3 ≤ maxLen := by
  obtain ⟨a1, k1, e1, -, -⟩ := h.s.shape
  obtain ⟨a2, k2, e2, -, -⟩ := h.v.shape
  obtain ⟨a3, k3, e3, h3, m3⟩ := h.g.s.shape
  obtain ⟨a4, k4, e4, -, -⟩ := h.q.shape
  refine ⟨a1, k1, a2, k2, a3, k3, a4, k4, ?_, e1, e2, e3, e4, by rw [← h.len]; exact h3, m3⟩
  unfold TP.v
  rw [e1, e2, e3, e4, h.len]
set_option maxHeartbeats 800000 in
set_option maxRecDepth 100000 in
theorem src_has (t : Tr) (p : TP) (n tm lo hi : Int) (w : World) (ht : TrM w t p) :
    Calls Tryz.prog 369 #[p.v t, .int .i64 n, .int .i64 tm, .int .i64 lo, .int .i64 hi] w fun e W' => e = .returned (.bool (hasS t n tm lo hi)) ∧ Below w.heap.size w W' := by
  obtain ⟨a1, k1, a2, k2, a3, k3, a4, k4, e, -⟩ := ht.open
  rw [e]
  have HB := Lib.hid (show Below w.heap.size w (w.alloc (.cells (boxT t a1 a2 a3 a4 k1 k2 k3 k4) 148)) from (Below.refl _ _).alloc (Nat.le_refl _) _)
  clear ht e
  by_cases h1 : 0 ≤ n
  · have b1 : decide (0 ≤ n) = true := by simpa using h1
    by_cases h2 : n < (t.G.length : Int)
    · have b2 : decide (n < (t.G.length : Int)) = true := by simpa using h2
      by_cases h3 : lo ≤ tm
      · have b3 : decide (lo ≤ tm) = true := by simpa using h3
        by_cases h4 : tm ≤ hi
        · have b4 : decide (tm ≤ hi) = true := by simpa using h4
          have HR := Lib.hid (show true = hasS t n tm lo hi by unfold hasS; rw [b1, b2, b3, b4]; rfl)
          go_enter Tryz.func369, Tryz.ntmps369
          go_wp2_with fail
          go_ret
          first | exact ⟨ret_bool HR.out, HB.out⟩ | exact ⟨rfl, HB.out⟩
        · have b4 : decide (tm ≤ hi) = false := by simpa using h4
          have HR := Lib.hid (show false = hasS t n tm lo hi by unfold hasS; rw [b1, b2, b3, b4]; rfl)
          go_enter Tryz.func369, Tryz.ntmps369
          go_wp2_with fail
          go_ret
          first | exact ⟨ret_bool HR.out, HB.out⟩ | exact ⟨rfl, HB.out⟩
      · have b3 : decide (lo ≤ tm) = false := by simpa using h3
        have HR := Lib.hid (show false = hasS t n tm lo hi by unfold hasS; rw [b1, b2, b3]; rfl)
        go_enter Tryz.func369, Tryz.ntmps369
        go_wp2_with fail
        go_ret
        first | exact ⟨ret_bool HR.out, HB.out⟩ | exact ⟨rfl, HB.out⟩
    · have b2 : decide (n < (t.G.length : Int)) = false := by simpa using h2
      have HR := Lib.hid (show false = hasS t n tm lo hi by unfold hasS; rw [b1, b2]; rfl)
      go_enter Tryz.func369, Tryz.ntmps369
      go_wp2_with fail
      go_ret
      first | exact ⟨ret_bool HR.out, HB.out⟩ | exact ⟨rfl, HB.out⟩
  · have b1 : decide (0 ≤ n) = false := by simpa using h1
    have HR := Lib.hid (show false = hasS t n tm lo hi by unfold hasS; rw [b1]; rfl)
    go_enter Tryz.func369, Tryz.ntmps369
    go_wp2_with fail
    go_ret
    first | exact ⟨ret_bool HR.out, HB.out⟩ | exact ⟨rfl, HB.out⟩
set_option maxHeartbeats 400000 in
theorem src_Signals (t : Tr) (p : TP) (w : World) (ht : TrM w t p) : Calls Tryz.prog 366 #[p.v t] w fun e W' => e = .returned (.int .i64 t.G.length) ∧ Below w.heap.size w W' := by
  obtain ⟨a1, k1, a2, k2, a3, k3, a4, k4, e, -, -, e3, -, hk3, hm3⟩ := ht.open
  unfold maxLen at hm3
  have hb1 : Below w.heap.size w (w.alloc (.cells (boxT t a1 a2 a3 a4 k1 k2 k3 k4) 148)) := (Below.refl _ _).alloc (Nat.le_refl _) _
  have hX := OwnRow.fresh w (boxT t a1 a2 a3 a4 k1 k2 k3 k4) 148
  have hT := ht.below hb1
  have hlt : w.heap.size < (w.alloc (.cells (boxT t a1 a2 a3 a4 k1 k2 k3 k4) 148)).heap.size := by simp
  rw [e]
  have HB1 := Lib.hid hb1
  clear ht hT hX e e3 hb1
  go_enter Tryz.func366, Tryz.ntmps366
  go_wp2_with fail
  go_ret
  exact ⟨rfl, HB1.out⟩
set_option maxHeartbeats 400000 in
theorem src_End (t : Tr) (p : TP) (w : World) (ht : TrM w t p) : Calls Tryz.prog 361 #[p.v t] w fun e W' => e = .returned (.int .i64 t.en) ∧ Below w.heap.size w W' := by
  obtain ⟨a1, k1, a2, k2, a3, k3, a4, k4, e, -, -, e3, -, hk3, hm3⟩ := ht.open
  unfold maxLen at hm3
  have hb1 : Below w.heap.size w (w.alloc (.cells (boxT t a1 a2 a3 a4 k1 k2 k3 k4) 148)) := (Below.refl _ _).alloc (Nat.le_refl _) _
  have hX := OwnRow.fresh w (boxT t a1 a2 a3 a4 k1 k2 k3 k4) 148
  have hT := ht.below hb1
  have hlt : w.heap.size < (w.alloc (.cells (boxT t a1 a2 a3 a4 k1 k2 k3 k4) 148)).heap.size := by simp
  rw [e]
  have HB1 := Lib.hid hb1
  clear ht hT hX e e3 hb1
  go_enter Tryz.func361, Tryz.ntmps361
  go_wp2_with fail
  go_ret
  exact ⟨rfl, HB1.out⟩
set_option maxHeartbeats 400000 in
theorem src_Gaps (t : Tr) (p : TP) (w : World) (ht : TrM w t p) (hl : t.P.length ≤ 1000) : Calls Tryz.prog 362 #[p.v t] w fun e W' => ∃ v, e = .returned (.tuple #[v, .int .i64 0]) ∧ W'.ownsRow w.heap.size 57 2 v t.P.length (gps t.P) ∧ Below w.heap.size w W' := by
  obtain ⟨a1, k1, a2, k2, a3, k3, a4, k4, e, -, -, -, e4, -⟩ := ht.open
  rw [e]
  have hb1 : Below w.heap.size w (w.alloc (.cells (boxT t a1 a2 a3 a4 k1 k2 k3 k4) 148)) := (Below.refl _ _).alloc (Nat.le_refl _) _
  have hc := cp_gp p.vp t.P _ (ht.q.below hb1) (by omega) (fun u hu => by
    obtain ⟨g, -, hg⟩ := List.mem_flatMap.1 hu
    simp only [gpC, List.mem_cons, List.not_mem_nil, or_false] at hg
    rcases hg with rfl | rfl <;> rfl)
  rw [e4] at hc
  have HC := Lib.hid hc
  have HB1 := Lib.hid hb1
  clear ht hc hb1 e e4
  go_enter Tryz.func362, Tryz.ntmps362
  go_wp2_with fail
  refine HC.out.mono ?_
  rintro e w2 ⟨v, rfl, ho, hb2⟩
  have HO := Lib.hid ho
  have HB2 := Lib.hid (HB1.out.trans (hb2.mono HB1.out.size))
  clear ho hb2
  go_wp2_with fail
  go_ret2
  exact ⟨v, rfl, ownsRow_base HO.out HB1.out.size, HB2.out⟩
set_option maxHeartbeats 800000 in
set_option maxRecDepth 100000 in
theorem src_Kind (t : Tr) (p : TP) (n : Int) (w : World) (ht : TrM w t p) : Calls Tryz.prog 363 #[p.v t, .int .i64 n] w fun e W' => e = .returned (.tuple #[.int .i64 (srcKind t n).1, .int .i64 (srcKind t n).2.1, .int .i64 (srcKind t n).2.2]) ∧ Below w.heap.size w W' := by
  obtain ⟨a1, k1, a2, k2, a3, k3, a4, k4, e, -, -, e3, -, hk3, hm3⟩ := ht.open
  unfold maxLen at hm3
  have hb1 : Below w.heap.size w (w.alloc (.cells (boxT t a1 a2 a3 a4 k1 k2 k3 k4) 148)) := (Below.refl _ _).alloc (Nat.le_refl _) _
  have hX := OwnRow.fresh w (boxT t a1 a2 a3 a4 k1 k2 k3 k4) 148
  have hT := ht.below hb1
  have hlt : w.heap.size < (w.alloc (.cells (boxT t a1 a2 a3 a4 k1 k2 k3 k4) 148)).heap.size := by simp
  have hH := src_has t p n 0 0 0 _ hT
  rw [e] at hH ⊢
  by_cases hh : hasS t n 0 0 0 = true
  · obtain ⟨h0, h1, -⟩ := hasS_iff.1 hh
    obtain ⟨j, rfl⟩ : ∃ j : Nat, n = (j : Int) := ⟨n.toNat, by omega⟩
    have hj : j < p.M.length := by rw [ht.len]; omega
    have HR := Lib.hid (show srcKind t (j : Int) = (p.M[j].1.1, p.M[j].1.2.1, 0) by unfold srcKind; rw [if_pos hh, ht.sg hj])
    have hj2 : j < t.G.length := by omega
    rw [hh] at hH
    rw [HR.out]
    have hsg := hT.g
    rw [e3] at hsg
    have HSG := Lib.hid hsg
    have HB1 := Lib.hid hb1
    have HX := Lib.hid hX
    have HH := Lib.hid hH
    clear ht hT hX hb1 hh h0 h1 e e3 hH hsg
    go_enter Tryz.func363, Tryz.ntmps363
    go_wp2_with fail
    generalize w.alloc (.cells (boxT t a1 a2 a3 a4 k1 k2 k3 k4) 148) = w1 at *
    refine HH.out.mono ?_
    rintro e w2 ⟨rfl, hb2⟩
    have HB2 := Lib.hid (HB1.out.trans (hb2.mono HB1.out.size))
    have hX2 := HX.out.below hb2 hlt
    obtain ⟨b, o, rfl, d0, d1, d2, hd⟩ := (HSG.out.below hb2).at hj
    have p0 := hX2.cell (j := 0) rfl
    have p1 := hX2.cell (j := 1) rfl
    have p2 := hX2.cell (j := 2) rfl
    have p3 := hX2.cell (j := 3) rfl
    have p4 := hX2.cell (j := 4) rfl
    have p5 := hX2.cell (j := 5) rfl
    have p6 := hX2.cell (j := 6) rfl
    have p7 := hX2.cell (j := 7) rfl
    have p8 := hX2.cell (j := 8) rfl
    clear hb2 hX2 d2 hd
    go_wp2_with fail
    go_quiet (fail)
    go_wp2_with fail
    go_ret3
    exact ⟨rfl, below_drewN HB2.out _⟩
  · have hf : hasS t n 0 0 0 = false := by simpa using hh
    have HR := Lib.hid (show srcKind t n = (0, 0, 2) by unfold srcKind; rw [if_neg hh])
    rw [hf] at hH
    rw [HR.out]
    have HB1 := Lib.hid hb1
    have HH := Lib.hid hH
    clear ht hT hX hb1 hh hf e e3 hH
    go_enter Tryz.func363, Tryz.ntmps363
    go_wp2_with fail
    refine HH.out.mono ?_
    rintro e w2 ⟨rfl, hb2⟩
    have HB2 := Lib.hid (HB1.out.trans (hb2.mono HB1.out.size))
    clear hb2
    go_wp2_with fail
    go_ret3
    exact ⟨rfl, HB2.out⟩
end Go.Proofs.YtbiadennhnokhaaGreatDoor
/- The methods of a source that read a signal. -/
namespace Go.Proofs.YtbiadennhnokhaaGreatDoor
open Go.RowKit
set_option linter.unusedSimpArgs false

set_option maxHeartbeats 1600000 in
set_option maxRecDepth 100000 in
theorem src_Value (t : Tr) (p : TP) (n tm : Int) (w : World) (ht : TrM w t p) (hs : SrcB t) (hg : Glob w) : Calls Tryz.prog 367 #[p.v t, .int .i64 n, .int .i64 tm] w fun e W' => e = .returned (.tuple #[.string (srcVal t n tm).1, .int .i64 (srcVal t n tm).2]) ∧ Below w.heap.size w W' := by
  obtain ⟨a1, k1, a2, k2, a3, k3, a4, k4, e, -, -, e3, -, hk3, hm3⟩ := ht.open
  unfold maxLen at hm3
  have hb1 : Below w.heap.size w (w.alloc (.cells (boxT t a1 a2 a3 a4 k1 k2 k3 k4) 148)) := (Below.refl _ _).alloc (Nat.le_refl _) _
  have hX := OwnRow.fresh w (boxT t a1 a2 a3 a4 k1 k2 k3 k4) 148
  have hT := ht.below hb1
  have hlt : w.heap.size < (w.alloc (.cells (boxT t a1 a2 a3 a4 k1 k2 k3 k4) 148)).heap.size := by simp
  have hH := src_has t p n tm 0 t.en _ hT
  rw [e] at hH ⊢
  by_cases hh : hasS t n tm 0 t.en = true
  · obtain ⟨h0, h1, -⟩ := hasS_iff.1 hh
    obtain ⟨j, rfl⟩ : ∃ j : Nat, n = (j : Int) := ⟨n.toNat, by omega⟩
    have hj : j < p.M.length := by rw [ht.len]; omega
    have HR := Lib.hid (show srcVal t (j : Int) tm = atR p.M[j].1.1 p.M[j].1.2.1 p.M[j].1.2.2 tm by unfold srcVal; rw [if_pos hh, ht.sg hj])
    have hj2 : j < t.G.length := by omega
    have HF := Lib.hid (show Fit p.M[j].1.2.2 from hs.f _ (by rw [← ht.m]; exact List.mem_map.2 ⟨_, List.getElem_mem hj, rfl⟩))
    rw [hh] at hH
    have hsg := hT.g
    rw [e3] at hsg
    have HSG := Lib.hid hsg
    have HB1 := Lib.hid hb1
    have HX := Lib.hid hX
    have HH := Lib.hid hH
    have HG := Lib.hid hg
    clear ht hT hX hb1 hh h0 h1 e e3 hH hsg hg hs
    obtain ⟨R, hR⟩ : ∃ R, R = srcVal t (j : Int) tm := ⟨_, rfl⟩
    rw [← hR] at HR ⊢
    clear hR
    go_enter Tryz.func367, Tryz.ntmps367
    go_wp2_with fail
    generalize w.alloc (.cells (boxT t a1 a2 a3 a4 k1 k2 k3 k4) 148) = w1 at *
    refine HH.out.mono ?_
    rintro e w2 ⟨rfl, hb2⟩
    have HB2 := Lib.hid (HB1.out.trans (hb2.mono HB1.out.size))
    have hX2 := HX.out.below hb2 hlt
    obtain ⟨b, o, rfl, d0, d1, d2, hd⟩ := (HSG.out.below hb2).at hj
    have p0 := hX2.cell (j := 0) rfl
    have p1 := hX2.cell (j := 1) rfl
    have p2 := hX2.cell (j := 2) rfl
    have p3 := hX2.cell (j := 3) rfl
    have p4 := hX2.cell (j := 4) rfl
    have p5 := hX2.cell (j := 5) rfl
    have p6 := hX2.cell (j := 6) rfl
    have p7 := hX2.cell (j := 7) rfl
    have p8 := hX2.cell (j := 8) rfl
    generalize p.M[j] = x at *
    obtain ⟨⟨k, m, l⟩, xv⟩ := x
    dsimp only at d0 d1 d2 hd HF HR
    obtain ⟨xa, xc, rfl, -, -⟩ := hd.shape
    have HC := Lib.hid (sig_At k m _ l tm w2 (HG.out.below HB2.out) hd HF.out)
    rw [← HR.out] at HC
    clear hb2 hX2 hd HG HF HR
    go_wp2_with fail
    refine HC.out.mono ?_
    rintro e w3 ⟨rfl, hb3⟩
    have HB3 := Lib.hid (HB2.out.trans (hb3.mono HB2.out.size))
    clear hb3 d0 d1 d2
    go_wp2_with fail
    go_ret2
    exact ⟨rfl, HB3.out⟩
  · have hf : hasS t n tm 0 t.en = false := by simpa using hh
    have HR := Lib.hid (show srcVal t n tm = (⟨#[]⟩, 2) by unfold srcVal; rw [if_neg hh])
    rw [hf] at hH
    rw [HR.out]
    have HB1 := Lib.hid hb1
    have HH := Lib.hid hH
    clear ht hT hX hb1 hh hf e e3 hH hg hs
    go_enter Tryz.func367, Tryz.ntmps367
    go_wp2_with fail
    refine HH.out.mono ?_
    rintro e w2 ⟨rfl, hb2⟩
    have HB2 := Lib.hid (HB1.out.trans (hb2.mono HB1.out.size))
    clear hb2
    go_wp2_with fail
    go_ret2
    exact ⟨rfl, HB2.out⟩
set_option maxHeartbeats 1600000 in
set_option maxRecDepth 100000 in
theorem src_Next (t : Tr) (p : TP) (n tm : Int) (w : World) (ht : TrM w t p) (hs : SrcB t) (hg : Glob w) : Calls Tryz.prog 364 #[p.v t, .int .i64 n, .int .i64 tm] w fun e W' => e = .returned (.tuple #[.agg #[.int .i64 (srcNext t n tm).1.1, .string (srcNext t n tm).1.2], .int .i64 (srcNext t n tm).2]) ∧ Below w.heap.size w W' := by
  obtain ⟨a1, k1, a2, k2, a3, k3, a4, k4, e, -, -, e3, -, hk3, hm3⟩ := ht.open
  unfold maxLen at hm3
  have hb1 : Below w.heap.size w ((w.alloc (.cells (boxT t a1 a2 a3 a4 k1 k2 k3 k4) 148)).alloc (.cells #[.int .i64 0, .string ⟨#[]⟩] 53)) := ((Below.refl _ _).alloc (Nat.le_refl _) _).alloc (by simp) _
  have hX := (OwnRow.fresh w (boxT t a1 a2 a3 a4 k1 k2 k3 k4) 148).alloc (by simp) (.cells #[.int .i64 0, .string ⟨#[]⟩] 53)
  have hY := OwnRow.fresh (w.alloc (.cells (boxT t a1 a2 a3 a4 k1 k2 k3 k4) 148)) #[.int .i64 0, .string ⟨#[]⟩] 53
  rw [World.size_alloc] at hY
  have hT := ht.below hb1
  have hlt : w.heap.size + 1 < ((w.alloc (.cells (boxT t a1 a2 a3 a4 k1 k2 k3 k4) 148)).alloc (.cells #[.int .i64 0, .string ⟨#[]⟩] 53)).heap.size := by simp
  have hH := src_has t p n tm (-1) t.en _ hT
  rw [e] at hH ⊢
  obtain ⟨hen1, hen2⟩ := hs.e
  obtain ⟨R, hR⟩ : ∃ R, R = srcNext t n tm := ⟨_, rfl⟩
  rw [← hR]
  by_cases hh : hasS t n tm (-1) t.en = true
  · obtain ⟨h0, h1, -⟩ := hasS_iff.1 hh
    obtain ⟨j, rfl⟩ : ∃ j : Nat, n = (j : Int) := ⟨n.toNat, by omega⟩
    have hj : j < p.M.length := by rw [ht.len]; omega
    have HR := Lib.hid (show R = nextR p.M[j].1.1 p.M[j].1.2.1 p.M[j].1.2.2 tm by rw [hR]; unfold srcNext; rw [if_pos hh, ht.sg hj])
    have hj2 : j < t.G.length := by omega
    have HF := Lib.hid (show Fit p.M[j].1.2.2 from hs.f _ (by rw [← ht.m]; exact List.mem_map.2 ⟨_, List.getElem_mem hj, rfl⟩))
    rw [hh] at hH
    have hsg := hT.g
    rw [e3] at hsg
    have HSG := Lib.hid hsg
    have HB1 := Lib.hid hb1
    have HX := Lib.hid hX
    have HY := Lib.hid hY
    have HH := Lib.hid hH
    have HG := Lib.hid hg
    clear ht hT hX hY hb1 hh h0 h1 e e3 hH hsg hg hs hR
    go_enter Tryz.func364, Tryz.ntmps364
    go_wp2_with fail
    generalize (w.alloc (.cells (boxT t a1 a2 a3 a4 k1 k2 k3 k4) 148)).alloc (.cells #[.int .i64 0, .string ⟨#[]⟩] 53) = w1 at *
    refine HH.out.mono ?_
    rintro e w2 ⟨rfl, hb2⟩
    have HB2 := Lib.hid (HB1.out.trans (hb2.mono HB1.out.size))
    have hX2 := HX.out.below hb2 (by omega)
    have HY2 := Lib.hid (HY.out.below hb2 hlt)
    have hlt2 : w.heap.size + 1 < w2.heap.size := Nat.lt_of_lt_of_le hlt hb2.size
    obtain ⟨b, o, rfl, d0, d1, d2, hd⟩ := (HSG.out.below hb2).at hj
    have p0 := hX2.cell (j := 0) rfl
    have p1 := hX2.cell (j := 1) rfl
    have p2 := hX2.cell (j := 2) rfl
    have p3 := hX2.cell (j := 3) rfl
    have p4 := hX2.cell (j := 4) rfl
    have p5 := hX2.cell (j := 5) rfl
    have p6 := hX2.cell (j := 6) rfl
    have p7 := hX2.cell (j := 7) rfl
    have p8 := hX2.cell (j := 8) rfl
    generalize p.M[j] = x at *
    obtain ⟨⟨k, m, l⟩, xv⟩ := x
    dsimp only at d0 d1 d2 hd HF HR
    obtain ⟨xa, xc, rfl, -, -⟩ := hd.shape
    have HC := Lib.hid (sig_Next k m _ l tm w2 (HG.out.below HB2.out) hd HF.out)
    rw [← HR.out] at HC
    clear hb2 hX2 hd HG HF HR
    go_wp2_with fail
    refine HC.out.mono ?_
    rintro e w3 ⟨rfl, hb3⟩
    have HB3 := Lib.hid (HB2.out.trans (hb3.mono HB2.out.size))
    have hY3 := HY2.out.below hb3 hlt2
    have y0 := hY3.cell (j := 0) rfl
    have y1 := hY3.cell (j := 1) rfl
    have z0 := hY3.free (j := 0) (by simp)
    have z1 := hY3.free (j := 1) (by simp)
    clear hb3 d0 d1 d2 hY3
    go_wp2_with fail
    refine bodyPost_ret (v := .tuple #[.agg #[.int .i64 R.1.1, .string R.1.2], .int .i64 R.2]) (by simp [results, Tryz.results364, go_sem, y0, y1]) rfl ⟨rfl, ?_⟩
    exact (HB3.out.setCell (by show _ ≤ _ + 1; omega) _).setCell (by show _ ≤ _ + 1; omega) _
  · have hf : hasS t n tm (-1) t.en = false := by simpa using hh
    have HR := Lib.hid (show R = ((0, ⟨#[]⟩), 2) by rw [hR]; unfold srcNext; rw [if_neg hh])
    rw [hf] at hH
    rw [HR.out]
    have HB1 := Lib.hid hb1
    have HY := Lib.hid hY
    have HH := Lib.hid hH
    clear ht hT hX hY hb1 hh hf e e3 hH hg hs hR
    go_enter Tryz.func364, Tryz.ntmps364
    go_wp2_with fail
    generalize (w.alloc (.cells (boxT t a1 a2 a3 a4 k1 k2 k3 k4) 148)).alloc (.cells #[.int .i64 0, .string ⟨#[]⟩] 53) = w1 at *
    refine HH.out.mono ?_
    rintro e w2 ⟨rfl, hb2⟩
    have HB2 := Lib.hid (HB1.out.trans (hb2.mono HB1.out.size))
    have hY2 := HY.out.below hb2 hlt
    have y0 := hY2.cell (j := 0) rfl
    have y1 := hY2.cell (j := 1) rfl
    have z0 := hY2.free (j := 0) (by simp)
    have z1 := hY2.free (j := 1) (by simp)
    clear hb2 hY2
    go_wp2_with fail
    refine bodyPost_ret (v := .tuple #[.agg #[.int .i64 0, .string ⟨#[]⟩], .int .i64 2]) (by simp [results, Tryz.results364, go_sem, y0, y1]) rfl ⟨rfl, ?_⟩
    exact (HB2.out.setCell (by show _ ≤ _ + 1; omega) _).setCell (by show _ ≤ _ + 1; omega) _
set_option maxHeartbeats 1600000 in
set_option maxRecDepth 100000 in
theorem src_Previous (t : Tr) (p : TP) (n tm : Int) (w : World) (ht : TrM w t p) (hs : SrcB t) (hg : Glob w) : Calls Tryz.prog 365 #[p.v t, .int .i64 n, .int .i64 tm] w fun e W' => e = .returned (.tuple #[.agg #[.int .i64 (srcPrev t n tm).1.1, .string (srcPrev t n tm).1.2], .int .i64 (srcPrev t n tm).2]) ∧ Below w.heap.size w W' := by
  obtain ⟨a1, k1, a2, k2, a3, k3, a4, k4, e, -, -, e3, -, hk3, hm3⟩ := ht.open
  unfold maxLen at hm3
  have hb1 : Below w.heap.size w ((w.alloc (.cells (boxT t a1 a2 a3 a4 k1 k2 k3 k4) 148)).alloc (.cells #[.int .i64 0, .string ⟨#[]⟩] 53)) := ((Below.refl _ _).alloc (Nat.le_refl _) _).alloc (by simp) _
  have hX := (OwnRow.fresh w (boxT t a1 a2 a3 a4 k1 k2 k3 k4) 148).alloc (by simp) (.cells #[.int .i64 0, .string ⟨#[]⟩] 53)
  have hY := OwnRow.fresh (w.alloc (.cells (boxT t a1 a2 a3 a4 k1 k2 k3 k4) 148)) #[.int .i64 0, .string ⟨#[]⟩] 53
  rw [World.size_alloc] at hY
  have hT := ht.below hb1
  have hlt : w.heap.size + 1 < ((w.alloc (.cells (boxT t a1 a2 a3 a4 k1 k2 k3 k4) 148)).alloc (.cells #[.int .i64 0, .string ⟨#[]⟩] 53)).heap.size := by simp
  have hH := src_has t p n tm 0 (t.en + 1) _ hT
  rw [e] at hH ⊢
  obtain ⟨hen1, hen2⟩ := hs.e
  obtain ⟨R, hR⟩ : ∃ R, R = srcPrev t n tm := ⟨_, rfl⟩
  rw [← hR]
  by_cases hh : hasS t n tm 0 (t.en + 1) = true
  · obtain ⟨h0, h1, -⟩ := hasS_iff.1 hh
    obtain ⟨j, rfl⟩ : ∃ j : Nat, n = (j : Int) := ⟨n.toNat, by omega⟩
    have hj : j < p.M.length := by rw [ht.len]; omega
    have HR := Lib.hid (show R = prevR p.M[j].1.1 p.M[j].1.2.1 p.M[j].1.2.2 tm by rw [hR]; unfold srcPrev; rw [if_pos hh, ht.sg hj])
    have hj2 : j < t.G.length := by omega
    have HF := Lib.hid (show Fit p.M[j].1.2.2 from hs.f _ (by rw [← ht.m]; exact List.mem_map.2 ⟨_, List.getElem_mem hj, rfl⟩))
    rw [hh] at hH
    have hsg := hT.g
    rw [e3] at hsg
    have HSG := Lib.hid hsg
    have HB1 := Lib.hid hb1
    have HX := Lib.hid hX
    have HY := Lib.hid hY
    have HH := Lib.hid hH
    have HG := Lib.hid hg
    clear ht hT hX hY hb1 hh h0 h1 e e3 hH hsg hg hs hR
    go_enter Tryz.func365, Tryz.ntmps365
    go_wp2_with fail
    generalize (w.alloc (.cells (boxT t a1 a2 a3 a4 k1 k2 k3 k4) 148)).alloc (.cells #[.int .i64 0, .string ⟨#[]⟩] 53) = w1 at *
    refine HH.out.mono ?_
    rintro e w2 ⟨rfl, hb2⟩
    have HB2 := Lib.hid (HB1.out.trans (hb2.mono HB1.out.size))
    have hX2 := HX.out.below hb2 (by omega)
    have HY2 := Lib.hid (HY.out.below hb2 hlt)
    have hlt2 : w.heap.size + 1 < w2.heap.size := Nat.lt_of_lt_of_le hlt hb2.size
    obtain ⟨b, o, rfl, d0, d1, d2, hd⟩ := (HSG.out.below hb2).at hj
    have p0 := hX2.cell (j := 0) rfl
    have p1 := hX2.cell (j := 1) rfl
    have p2 := hX2.cell (j := 2) rfl
    have p3 := hX2.cell (j := 3) rfl
    have p4 := hX2.cell (j := 4) rfl
    have p5 := hX2.cell (j := 5) rfl
    have p6 := hX2.cell (j := 6) rfl
    have p7 := hX2.cell (j := 7) rfl
    have p8 := hX2.cell (j := 8) rfl
    generalize p.M[j] = x at *
    obtain ⟨⟨k, m, l⟩, xv⟩ := x
    dsimp only at d0 d1 d2 hd HF HR
    obtain ⟨xa, xc, rfl, -, -⟩ := hd.shape
    have HC := Lib.hid (sig_Previous k m _ l tm w2 (HG.out.below HB2.out) hd HF.out)
    rw [← HR.out] at HC
    clear hb2 hX2 hd HG HF HR
    go_wp2_with fail
    refine HC.out.mono ?_
    rintro e w3 ⟨rfl, hb3⟩
    have HB3 := Lib.hid (HB2.out.trans (hb3.mono HB2.out.size))
    have hY3 := HY2.out.below hb3 hlt2
    have y0 := hY3.cell (j := 0) rfl
    have y1 := hY3.cell (j := 1) rfl
    have z0 := hY3.free (j := 0) (by simp)
    have z1 := hY3.free (j := 1) (by simp)
    clear hb3 d0 d1 d2 hY3
    go_wp2_with fail
    refine bodyPost_ret (v := .tuple #[.agg #[.int .i64 R.1.1, .string R.1.2], .int .i64 R.2]) (by simp [results, Tryz.results365, go_sem, y0, y1]) rfl ⟨rfl, ?_⟩
    exact (HB3.out.setCell (by show _ ≤ _ + 1; omega) _).setCell (by show _ ≤ _ + 1; omega) _
  · have hf : hasS t n tm 0 (t.en + 1) = false := by simpa using hh
    have HR := Lib.hid (show R = ((0, ⟨#[]⟩), 2) by rw [hR]; unfold srcPrev; rw [if_neg hh])
    rw [hf] at hH
    rw [HR.out]
    have HB1 := Lib.hid hb1
    have HY := Lib.hid hY
    have HH := Lib.hid hH
    clear ht hT hX hY hb1 hh hf e e3 hH hg hs hR
    go_enter Tryz.func365, Tryz.ntmps365
    go_wp2_with fail
    generalize (w.alloc (.cells (boxT t a1 a2 a3 a4 k1 k2 k3 k4) 148)).alloc (.cells #[.int .i64 0, .string ⟨#[]⟩] 53) = w1 at *
    refine HH.out.mono ?_
    rintro e w2 ⟨rfl, hb2⟩
    have HB2 := Lib.hid (HB1.out.trans (hb2.mono HB1.out.size))
    have hY2 := HY.out.below hb2 hlt
    have y0 := hY2.cell (j := 0) rfl
    have y1 := hY2.cell (j := 1) rfl
    have z0 := hY2.free (j := 0) (by simp)
    have z1 := hY2.free (j := 1) (by simp)
    clear hb2 hY2
    go_wp2_with fail
    refine bodyPost_ret (v := .tuple #[.agg #[.int .i64 0, .string ⟨#[]⟩], .int .i64 2]) (by simp [results, Tryz.results365, go_sem, y0, y1]) rfl ⟨rfl, ?_⟩
    exact (HB2.out.setCell (by show _ ≤ _ + 1; omega) _).setCell (by show _ ≤ _ + 1; omega) _
set_option maxHeartbeats 1600000 in
set_option maxRecDepth 100000 in
theorem src_Window (t : Tr) (p : TP) (n a b : Int) (w : World) (ht : TrM w t p) (hs : SrcB t) (hg : Glob w) : Calls Tryz.prog 368 #[p.v t, .int .i64 n, .int .i64 a, .int .i64 b] w fun e W' => ∃ v R, R = srcWin t n a b ∧ e = .returned (.tuple #[v, .int .i64 R.2]) ∧ SlR W' v R.1.length (chs R.1) ∧ Below w.heap.size w W' := by
  obtain ⟨a1, k1, a2, k2, a3, k3, a4, k4, e, -, -, e3, -, hk3, hm3⟩ := ht.open
  unfold maxLen at hm3
  have hb1 : Below w.heap.size w (w.alloc (.cells (boxT t a1 a2 a3 a4 k1 k2 k3 k4) 148)) := (Below.refl _ _).alloc (Nat.le_refl _) _
  have hX := OwnRow.fresh w (boxT t a1 a2 a3 a4 k1 k2 k3 k4) 148
  have hT := ht.below hb1
  have hlt : w.heap.size < (w.alloc (.cells (boxT t a1 a2 a3 a4 k1 k2 k3 k4) 148)).heap.size := by simp
  have hH := src_has t p n a 0 b _ hT
  rw [e] at hH ⊢
  obtain ⟨hen1, hen2⟩ := hs.e
  by_cases hh : hasS t n a 0 b = true
  · by_cases hbe : b ≤ t.en
    · obtain ⟨h0, h1, h2, h3⟩ := hasS_iff.1 hh
      obtain ⟨j, rfl⟩ : ∃ j : Nat, n = (j : Int) := ⟨n.toNat, by omega⟩
      have hj : j < p.M.length := by rw [ht.len]; omega
      have HR := Lib.hid (show srcWin t (j : Int) a b = (winR p.M[j].1.1 p.M[j].1.2.1 p.M[j].1.2.2 a b, 0) by unfold srcWin; rw [if_pos ⟨hh, hbe⟩, ht.sg hj])
      have hj2 : j < t.G.length := by omega
      have HF := Lib.hid (show Fit p.M[j].1.2.2 from hs.f _ (by rw [← ht.m]; exact List.mem_map.2 ⟨_, List.getElem_mem hj, rfl⟩))
      have HBB := Lib.hid (show -9223372036854775808 ≤ b ∧ b ≤ 9223372036854775807 by omega)
      have bbe : ¬ t.en < b := by omega
      rw [hh] at hH
      have hsg := hT.g
      rw [e3] at hsg
      have HSG := Lib.hid hsg
      have HB1 := Lib.hid hb1
      have HX := Lib.hid hX
      have HH := Lib.hid hH
      have HG := Lib.hid hg
      clear ht hT hX hb1 hh h0 h1 h2 h3 e e3 hH hsg hg hs hbe
      go_enter Tryz.func368, Tryz.ntmps368
      go_wp2_with fail
      generalize w.alloc (.cells (boxT t a1 a2 a3 a4 k1 k2 k3 k4) 148) = w1 at *
      refine HH.out.mono ?_
      rintro e w2 ⟨rfl, hb2⟩
      have HB2 := Lib.hid (HB1.out.trans (hb2.mono HB1.out.size))
      have hX2 := HX.out.below hb2 hlt
      obtain ⟨bb, o, rfl, d0, d1, d2, hd⟩ := (HSG.out.below hb2).at hj
      have p0 := hX2.cell (j := 0) rfl
      have p1 := hX2.cell (j := 1) rfl
      have p2 := hX2.cell (j := 2) rfl
      have p3 := hX2.cell (j := 3) rfl
      have p4 := hX2.cell (j := 4) rfl
      have p5 := hX2.cell (j := 5) rfl
      have p6 := hX2.cell (j := 6) rfl
      have p7 := hX2.cell (j := 7) rfl
      have p8 := hX2.cell (j := 8) rfl
      generalize p.M[j] = x at *
      obtain ⟨⟨k, m, l⟩, xv⟩ := x
      dsimp only at d0 d1 d2 hd HF HR
      obtain ⟨xa, xc, rfl, -, -⟩ := hd.shape
      have HC := Lib.hid (sig_Window k m _ l a b w2 (HG.out.below HB2.out) hd HF.out HBB.out.1 HBB.out.2)
      clear hb2 hX2 hd HG HF
      go_wp2_with fail
      refine HC.out.mono ?_
      rintro e w3 ⟨v, rfl, hv, hb3⟩
      have HV := Lib.hid hv
      have HB3 := Lib.hid (HB2.out.trans (hb3.mono HB2.out.size))
      clear hb3 d0 d1 d2 hv
      go_wp2_with fail
      go_ret2
      exact ⟨v, _, HR.out.symm, rfl, HV.out, HB3.out⟩
    · have HR := Lib.hid (show srcWin t n a b = ([], 2) by unfold srcWin; rw [if_neg (fun h => hbe h.2)])
      have bbe : t.en < b := by omega
      rw [hh] at hH
      rw [HR.out]
      have HB1 := Lib.hid hb1
      have HX := Lib.hid hX
      have HH := Lib.hid hH
      clear ht hT hX hb1 hh e e3 hH hg hs hbe
      go_enter Tryz.func368, Tryz.ntmps368
      go_wp2_with fail
      generalize w.alloc (.cells (boxT t a1 a2 a3 a4 k1 k2 k3 k4) 148) = w1 at *
      refine HH.out.mono ?_
      rintro e w2 ⟨rfl, hb2⟩
      have HB2 := Lib.hid (HB1.out.trans (hb2.mono HB1.out.size))
      have hX2 := HX.out.below hb2 hlt
      have p0 := hX2.cell (j := 0) rfl
      have p1 := hX2.cell (j := 1) rfl
      have p2 := hX2.cell (j := 2) rfl
      have p3 := hX2.cell (j := 3) rfl
      have p4 := hX2.cell (j := 4) rfl
      have p5 := hX2.cell (j := 5) rfl
      have p6 := hX2.cell (j := 6) rfl
      have p7 := hX2.cell (j := 7) rfl
      have p8 := hX2.cell (j := 8) rfl
      clear hb2 hX2
      go_wp2_with fail
      go_ret2
      exact ⟨_, _, rfl, rfl, SlR.nil _, HB2.out⟩
  · have hf : hasS t n a 0 b = false := by simpa using hh
    have HR := Lib.hid (show srcWin t n a b = ([], 2) by unfold srcWin; rw [if_neg (fun h => hh h.1)])
    rw [hf] at hH
    rw [HR.out]
    have HB1 := Lib.hid hb1
    have HX := Lib.hid hX
    have HH := Lib.hid hH
    clear ht hT hX hb1 hh hf e e3 hH hg hs
    go_enter Tryz.func368, Tryz.ntmps368
    go_wp2_with fail
    generalize w.alloc (.cells (boxT t a1 a2 a3 a4 k1 k2 k3 k4) 148) = w1 at *
    refine HH.out.mono ?_
    rintro e w2 ⟨rfl, hb2⟩
    have HB2 := Lib.hid (HB1.out.trans (hb2.mono HB1.out.size))
    have hX2 := HX.out.below hb2 hlt
    have p0 := hX2.cell (j := 0) rfl
    have p1 := hX2.cell (j := 1) rfl
    have p2 := hX2.cell (j := 2) rfl
    have p3 := hX2.cell (j := 3) rfl
    have p4 := hX2.cell (j := 4) rfl
    have p5 := hX2.cell (j := 5) rfl
    have p6 := hX2.cell (j := 6) rfl
    have p7 := hX2.cell (j := 7) rfl
    have p8 := hX2.cell (j := 8) rfl
    clear hb2 hX2
    go_wp2_with fail
    go_ret2
    exact ⟨_, _, rfl, rfl, SlR.nil _, HB2.out⟩
end Go.Proofs.YtbiadennhnokhaaGreatDoor
