import Derived.Test.YtlbcfmhpkcpmaaaGreatDoorSig11
import Derived.RegionTactic
namespace Go.Proofs.YtlbcfmhpkcpmaaaGreatDoor
open Go.RowKit

def shG (by_ : Int) (c : Ch) : Ch × Bool := ((c.1 + by_, c.2), decide (0 ≤ c.1 + by_))

set_option maxHeartbeats 1600000 in
set_option maxRecDepth 100000 in
theorem sig_Shift1 (p : Nat) (by_ : Int) (c : Ch) (W : World) (hp : W.cell? ⟨p, 0, none⟩ = some (.int .i64 by_)) (h0 : -1099511627776 ≤ by_) (h1 : by_ ≤ 1099511627776) (h2 : 0 ≤ c.1) (h3 : c.1 ≤ 1099511627776) :
    Calls Tryz.prog 63 #[.agg #[.int .i64 c.1, .string c.2], .pointer (some ⟨p, 0, none⟩)] W fun e w' => e = .returned (.tuple #[.agg #[.int .i64 (shG by_ c).1.1, .string (shG by_ c).1.2], .bool (shG by_ c).2]) ∧ Below W.heap.size W w' := by
  obtain ⟨t, s⟩ := c
  unfold shG
  dsimp only at h2 h3 ⊢
  have hb : Below ((W.alloc (.cells #[.int .i64 t, .string s] 36)).alloc (.cells #[.int .i64 0, .string ⟨#[]⟩] 36)).heap.size ((W.alloc (.cells #[.int .i64 t, .string s] 36)).alloc (.cells #[.int .i64 0, .string ⟨#[]⟩] 36)) ((W.alloc (.cells #[.int .i64 t, .string s] 36)).alloc (.cells #[.int .i64 0, .string ⟨#[]⟩] 36)) := Below.refl _ _
  have hbw := ext_alloc (ext_alloc hb)
  obtain ⟨p0, p1, q0, q1⟩ := box2r hb
  have c0 := (boxN (ext_alloc hb) 0).1
  have c1 := (boxN (ext_alloc hb) 1).1
  have hp' := (hbw.cell (p := ⟨p, 0, none⟩) (cell_lt hp)).trans hp
  have HB := Lib.hid hbw
  have hpl := cell_lt hp
  have hpn : p ≠ W.heap.size + 1 := by omega
  have hpm : W.heap.size + 1 ≠ p := by omega
  have hw : IntKind.i64.wrap (t + by_) = t + by_ := IntWalk.i64_in _ (by omega)
  clear hb hbw hp
  go_enter Tryz.func63, Tryz.ntmps63
  go_wp2_with fail
  obtain ⟨W1, hW1⟩ : ∃ W1, ((W.alloc (.cells #[.int .i64 t, .string s] 36)).alloc (.cells #[.int .i64 0, .string ⟨#[]⟩] 36)) = W1 := ⟨_, rfl⟩
  rw [hW1] at p0 p1 q0 q1 c0 c1 hp' HB ⊢
  clear hW1
  go_region
  all_goals go_wp2_with fail
  all_goals
    refine bodyPost_ret (v := .tuple #[.agg #[.int .i64 (t + by_), .string s], .bool (decide (0 ≤ t + by_))]) (by simp [results, Tryz.results63, go_sem, p0, p1]) rfl ⟨rfl, ?_⟩
    exact ((HB.out.setCell (Nat.le_succ _) _).setCell (Nat.le_succ _) _).drew

/-- the boxes of Shift: the signal, the number, the result -/
structure ShSt (w W : World) (k n : Int) (a : Option Addr) (len cap : Nat) (yv : Value) : Prop where
  s : OwnRow W w.heap.size [.int .i64 k, .int .i64 n, .slice a len cap]
  y : OwnRow W (w.heap.size + 1) [yv]
  r : OwnRow W (w.heap.size + 1 + 1) [.int .i64 0, .int .i64 0, .slice none 0 0]
  b : Below w.heap.size w W
  z : w.heap.size + 1 + 1 < W.heap.size
theorem ShSt.start (w : World) (k n : Int) (a : Option Addr) (len cap : Nat) (yv : Value) (S T : TypeId) : ShSt w (((w.alloc (.cells #[.int .i64 k, .int .i64 n, .slice a len cap] S)).alloc (.cells #[yv] T)).alloc (.cells #[.int .i64 0, .int .i64 0, .slice none 0 0] S)) k n a len cap yv := by
  refine ⟨?_, ?_, ?_, (((Below.refl _ _).alloc (Nat.le_refl _) _).alloc (by simp) _).alloc (by simp; omega) _, by simp⟩
  · exact ((OwnRow.fresh w #[.int .i64 k, .int .i64 n, .slice a len cap] _).alloc (by simp) _).alloc (by simp; omega) _
  · have h := OwnRow.fresh (w.alloc (.cells #[.int .i64 k, .int .i64 n, .slice a len cap] S)) #[yv] T
    simp only [World.size_alloc] at h
    exact h.alloc (by simp) _
  · have h := OwnRow.fresh ((w.alloc (.cells #[.int .i64 k, .int .i64 n, .slice a len cap] S)).alloc (.cells #[yv] T)) #[.int .i64 0, .int .i64 0, .slice none 0 0] S
    simp only [World.size_alloc] at h
    exact h
theorem ShSt.later {w W W' : World} {k n : Int} {a : Option Addr} {len cap : Nat} {yv : Value} (h : ShSt w W k n a len cap yv) {B : Nat} (hb : Below B W W') (hB : w.heap.size + 1 + 1 < B) : ShSt w W' k n a len cap yv :=
  ⟨h.s.below hb (by omega), h.y.below hb (by omega), h.r.below hb hB, h.b.trans (hb.mono (by omega)), by have := hb.size; have := h.z; omega⟩
theorem ShSt.facts {w W : World} {k n : Int} {a : Option Addr} {len cap : Nat} {yv : Value} (h : ShSt w W k n a len cap yv) :
    (W.cell? ⟨w.heap.size, 0, none⟩ = some (.int .i64 k) ∧ W.cell? ⟨w.heap.size, 1, none⟩ = some (.int .i64 n) ∧ W.cell? ⟨w.heap.size, 2, none⟩ = some (.slice a len cap)) ∧ W.cell? ⟨w.heap.size + 1, 0, none⟩ = some yv ∧
    (W.cell? ⟨w.heap.size + 1 + 1, 0, none⟩ = some (.int .i64 0) ∧ W.cell? ⟨w.heap.size + 1 + 1, 1, none⟩ = some (.int .i64 0) ∧ W.cell? ⟨w.heap.size + 1 + 1, 2, none⟩ = some (.slice none 0 0)) ∧
    (W.frozen? ⟨w.heap.size + 1 + 1, 0, none⟩ = false ∧ W.frozen? ⟨w.heap.size + 1 + 1, 1, none⟩ = false ∧ W.frozen? ⟨w.heap.size + 1 + 1, 2, none⟩ = false) :=
  ⟨⟨h.s.cell (j := 0) rfl, h.s.cell (j := 1) rfl, h.s.cell (j := 2) rfl⟩, h.y.cell (j := 0) rfl, ⟨h.r.cell (j := 0) rfl, h.r.cell (j := 1) rfl, h.r.cell (j := 2) rfl⟩, ⟨h.r.free (j := 0) (by simp), h.r.free (j := 1) (by simp), h.r.free (j := 2) (by simp)⟩⟩
theorem ShSt.drewN {w W : World} {k n : Int} {a : Option Addr} {len cap : Nat} {yv : Value} (h : ShSt w W k n a len cap yv) (m : Nat) : ShSt w (W.drewN m) k n a len cap yv := ⟨h.s, h.y, h.r, below_drewN h.b m, h.z⟩
theorem ShSt.fin {w W : World} {k n : Int} {a : Option Addr} {len cap : Nat} {yv : Value} (h : ShSt w W k n a len cap yv) (x y z : Value) :
    (((((W.setCell ⟨w.heap.size + 1 + 1, 0, none⟩ x).setCell ⟨w.heap.size + 1 + 1, 1, none⟩ y).setCell ⟨w.heap.size + 1 + 1, 2, none⟩ z).cell? ⟨w.heap.size + 1 + 1, 0, none⟩ = some x ∧ (((W.setCell ⟨w.heap.size + 1 + 1, 0, none⟩ x).setCell ⟨w.heap.size + 1 + 1, 1, none⟩ y).setCell ⟨w.heap.size + 1 + 1, 2, none⟩ z).cell? ⟨w.heap.size + 1 + 1, 1, none⟩ = some y ∧ (((W.setCell ⟨w.heap.size + 1 + 1, 0, none⟩ x).setCell ⟨w.heap.size + 1 + 1, 1, none⟩ y).setCell ⟨w.heap.size + 1 + 1, 2, none⟩ z).cell? ⟨w.heap.size + 1 + 1, 2, none⟩ = some z)) ∧
      Below w.heap.size w (((W.setCell ⟨w.heap.size + 1 + 1, 0, none⟩ x).setCell ⟨w.heap.size + 1 + 1, 1, none⟩ y).setCell ⟨w.heap.size + 1 + 1, 2, none⟩ z) :=
  ⟨set3 (h.r.cell (j := 0) rfl) (h.r.cell (j := 1) rfl) (h.r.cell (j := 2) rfl) x y z, below_set3' h.b (by omega) _ _ _⟩

/-- what Shift returns -/
def shTail (k n : Int) (l : List Ch) (by_ : Int) : List Ch := (0, valAt k n l (-by_)) :: (l.drop (lo l (-by_ + 1))).map (fun c => (c.1 + by_, c.2))
def shBad (l : List Ch) (by_ : Int) : Bool := match l.getLast? with | none => false | some c => decide (1099511627776 < c.1 + by_)
def shiftR (k n : Int) (l : List Ch) (by_ : Int) : SigR :=
  if sv k n l = false then ((0, 0, []), 1) else if by_ < -1099511627776 ∨ 1099511627776 < by_ ∨ shBad l by_ = true then ((0, 0, []), 2) else
  if 0 ≤ by_ ∨ k = 3 then madeR k n (eachL (shG by_) l) else madeR k n (shTail k n l by_)

theorem shBad_last (l : List Ch) (h : 0 < l.length) (by_ : Int) : shBad l by_ = decide (1099511627776 < (l[l.length - 1]'(by omega)).1 + by_) := by
  unfold shBad
  rw [List.getLast?_eq_getElem?, List.getElem?_eq_getElem (by omega)]
theorem shBad_nil (l : List Ch) (h : ¬ 0 < l.length) (by_ : Int) : shBad l by_ = false := by
  have : l = [] := List.length_eq_zero_iff.1 (by omega)
  rw [this]; rfl

set_option maxHeartbeats 1600000 in
set_option maxRecDepth 100000 in
theorem sig_Shift (k n : Int) (v : Value) (l : List Ch) (by_ : Int) (w : World) (hg : Glob w) (hs : SlR w v l.length (chs l)) (hf : Fit l) :
    Calls Tryz.prog 35 #[.agg #[.int .i64 k, .int .i64 n, v], .int .i64 by_] w (SigPost (shiftR k n l by_) w) := by
  obtain ⟨a, cap, rfl, hc, hm⟩ := hs.shape
  have hst := ShSt.start w k n a l.length cap (.int .i64 by_) 24 3
  have HV := Lib.hid (sig_Valid k n _ l _ (hg.below hst.b) (hs.below hst.b) hf)
  have HST := Lib.hid hst
  have HS := Lib.hid hs
  have hln := hf.1
  unfold maxLen at hm
  clear hg hs hf hst
  go_enter Tryz.func35, Tryz.ntmps35
  go_wp2_with fail
  refine HV.out.mono ?_
  rintro e w1 ⟨rfl, hb⟩
  have h1 := HST.out.later hb HST.out.z
  obtain ⟨⟨c0, c1, c2⟩, y0, ⟨r0, r1, r2⟩, q0, q1, q2⟩ := h1.facts
  have H1 := Lib.hid h1
  clear hb h1 HST
  cases hv : sv k n l
  · have HR := Lib.hid (show shiftR k n l by_ = ((0, 0, []), 1) by unfold shiftR; rw [if_pos hv])
    clear hv
    go_wp2_with fail
    obtain ⟨⟨e0, e1, e2⟩, hb⟩ := H1.out.fin (.int .i64 0) (.int .i64 0) (.slice none 0 0)
    refine bodyPost_ret (v := .tuple #[.agg #[.int .i64 0, .int .i64 0, .slice none 0 0], .int .i64 1]) (by simp [results, Tryz.results35, go_sem, e0, e1, e2]) rfl ?_
    rw [HR.out]
    exact SigPost.zero 1 hb
  obtain ⟨hst, hl4, -, hmem⟩ := sv_sorted hv
  have HST := Lib.hid hst
  have HMEM := Lib.hid hmem
  have hsv : shiftR k n l by_ = if by_ < -1099511627776 ∨ 1099511627776 < by_ ∨ shBad l by_ = true then ((0, 0, []), 2) else
      if 0 ≤ by_ ∨ k = 3 then madeR k n (eachL (shG by_) l) else madeR k n (shTail k n l by_) := by
    unfold shiftR; rw [if_neg (by rw [hv]; simp)]
  have HSV := Lib.hid hsv
  clear hv hst hmem hsv
  by_cases hlo : by_ < -1099511627776
  · have HR := Lib.hid (show shiftR k n l by_ = ((0, 0, []), 2) by rw [HSV.out, if_pos (.inl hlo)])
    have hd1 : decide (by_ < -1099511627776) = true := by simpa using hlo
    go_wp2_with fail
    go_quiet (fail)
    go_wp2_with fail
    obtain ⟨⟨e0, e1, e2⟩, hb⟩ := (H1.out.drewN nq).fin (.int .i64 0) (.int .i64 0) (.slice none 0 0)
    refine bodyPost_ret (v := .tuple #[.agg #[.int .i64 0, .int .i64 0, .slice none 0 0], .int .i64 2]) (by simp [results, Tryz.results35, go_sem, e0, e1, e2]) rfl ?_
    rw [HR.out]
    exact SigPost.zero 2 hb
  have hlo' : -1099511627776 ≤ by_ := by omega
  have hd1 : decide (by_ < -1099511627776) = false := by simpa using hlo
  by_cases hhi : 1099511627776 < by_
  · have HR := Lib.hid (show shiftR k n l by_ = ((0, 0, []), 2) by rw [HSV.out, if_pos (.inr (.inl hhi))])
    have hd2 : decide (1099511627776 < by_) = true := by simpa using hhi
    clear hlo
    go_wp2_with fail
    go_quiet (fail)
    go_wp2_with fail
    obtain ⟨⟨e0, e1, e2⟩, hb⟩ := (H1.out.drewN nq).fin (.int .i64 0) (.int .i64 0) (.slice none 0 0)
    refine bodyPost_ret (v := .tuple #[.agg #[.int .i64 0, .int .i64 0, .slice none 0 0], .int .i64 2]) (by simp [results, Tryz.results35, go_sem, e0, e1, e2]) rfl ?_
    rw [HR.out]
    exact SigPost.zero 2 hb
  have hhi' : by_ ≤ 1099511627776 := by omega
  have hd2 : decide (1099511627776 < by_) = false := by simpa using hhi
  by_cases hbad : shBad l by_ = true
  · have HR := Lib.hid (show shiftR k n l by_ = ((0, 0, []), 2) by rw [HSV.out, if_pos (.inr (.inr hbad))])
    have hpos : 0 < l.length := Nat.lt_of_not_le fun h => by rw [shBad_nil l (by omega)] at hbad; cases hbad
    rw [shBad_last l hpos, decide_eq_true_iff] at hbad
    have hlt : l.length - 1 < l.length := by omega
    have ht := HMEM.out _ hlt
    obtain ⟨b, o, rfl, d0, d1⟩ := (HS.out.below H1.out.b).ch hlt
    generalize l[l.length - 1] = c at d0 d1 hbad ht
    obtain ⟨t, s⟩ := c
    dsimp only at d0 d1 hbad ht
    obtain ⟨ht0, ht1, -⟩ := ht
    have hd3 : decide (0 < l.length) = true := by simpa using hpos
    have hd4 : decide (1099511627776 < t + by_) = true := by simpa using hbad
    have hw1 : IntKind.i64.wrap ((l.length : Int) - 1) = (l.length : Int) - 1 := IntWalk.i64_in _ (by omega)
    have hw2 : IntKind.i64.wrap (t + by_) = t + by_ := IntWalk.i64_in _ (by omega)
    have hi0 : (0 : Int) ≤ (l.length : Int) - 1 := by omega
    have hi1 : ((l.length : Int) - 1).toNat = l.length - 1 := by omega
    have hi2 : (l.length : Int) - 1 < (l.length : Int) := by omega
    clear hlo hhi
    go_wp2_with fail
    go_quiet (fail)
    go_wp2_with fail
    obtain ⟨⟨e0, e1, e2⟩, hb⟩ := (H1.out.drewN nq).fin (.int .i64 0) (.int .i64 0) (.slice none 0 0)
    refine bodyPost_ret (v := .tuple #[.agg #[.int .i64 0, .int .i64 0, .slice none 0 0], .int .i64 2]) (by simp [results, Tryz.results35, go_sem, e0, e1, e2]) rfl ?_
    rw [HR.out]
    exact SigPost.zero 2 hb
  have HSV2 := Lib.hid (show shiftR k n l by_ = if 0 ≤ by_ ∨ k = 3 then madeR k n (eachL (shG by_) l) else madeR k n (shTail k n l by_) by
    rw [HSV.out, if_neg (fun h => h.elim hlo (fun h => h.elim hhi hbad))])
  have hbb : shBad l by_ = false := by simpa using hbad
  have HBB := Lib.hid hbb
  clear hbad hbb hlo hhi
  go_upto_region 4 with fail
  go_cut [38] (fun c wc => c = .bool false ∧ ∃ m, wc = w1.drewN m)
  case first =>
    by_cases hpos : 0 < l.length
    · have hlt : l.length - 1 < l.length := by omega
      have ht := HMEM.out _ hlt
      have hbad := HBB.out
      rw [shBad_last l hpos, decide_eq_false_iff_not] at hbad
      obtain ⟨b, o, rfl, d0, d1⟩ := (HS.out.below H1.out.b).ch hlt
      generalize l[l.length - 1] = c at d0 d1 hbad ht
      obtain ⟨t, s⟩ := c
      dsimp only at d0 d1 hbad ht
      obtain ⟨ht0, ht1, -⟩ := ht
      have hd3 : decide (0 < l.length) = true := by simpa using hpos
      have hd4 : decide (1099511627776 < t + by_) = false := by simpa using hbad
      have hw1 : IntKind.i64.wrap ((l.length : Int) - 1) = (l.length : Int) - 1 := IntWalk.i64_in _ (by omega)
      have hw2 : IntKind.i64.wrap (t + by_) = t + by_ := IntWalk.i64_in _ (by omega)
      have hi0 : (0 : Int) ≤ (l.length : Int) - 1 := by omega
      have hi1 : ((l.length : Int) - 1).toNat = l.length - 1 := by omega
      have hi2 : (l.length : Int) - 1 < (l.length : Int) := by omega
      have hle : t + by_ ≤ 1099511627776 := by omega
      clear hbad
      go_wp2_with fail
      go_quiet (fail)
      go_wp2_with fail
      go_meet
      case rel => exact ⟨rfl, _, rfl⟩
    · have hd3 : decide (0 < l.length) = false := by simpa using hpos
      have h0 : l.length ≤ 0 := by omega
      clear hpos
      go_wp2_with fail
      go_quiet (fail)
      go_wp2_with fail
      go_meet
      case rel => exact ⟨rfl, _, rfl⟩
  case rest =>
    obtain ⟨rfl, m, rfl⟩ := hcut
    have H2 := Lib.hid (H1.out.drewN m)
    obtain ⟨⟨c0, c1, c2⟩, y0, ⟨r0, r1, r2⟩, q0, q1, q2⟩ := H2.out.facts
    have HS2 := Lib.hid (HS.out.below H2.out.b)
    clear H1
    generalize w1.drewN m = w2 at *
    by_cases hdir : 0 ≤ by_ ∨ k = 3
    · have HR := Lib.hid (show shiftR k n l by_ = madeR k n (eachL (shG by_) l) by rw [HSV2.out, if_pos hdir])
      have HE := Lib.hid (sig_eachS (w.heap.size + 1) (shG by_) k n n _ l w2 HS2.out (by omega) (fun c hc W hW => by
        obtain ⟨j, hj, rfl⟩ := List.getElem_of_mem hc
        have := HMEM.out j hj
        exact sig_Shift1 (w.heap.size + 1) by_ l[j] W ((hW.cell (p := ⟨w.heap.size + 1, 0, none⟩) (by have := H2.out.z; show w.heap.size + 1 < _; omega)).trans y0) hlo' hhi' this.1 this.2.1))
      clear c0 c1 c2 y0 r0 r1 r2 q0 q1 q2
      obtain ⟨⟨c0, c1, c2⟩, y0, ⟨r0, r1, r2⟩, q0, q1, q2⟩ := H2.out.facts
      by_cases hge : 0 ≤ by_
      · clear hdir
        go_wp2_with fail
        refine HE.out.mono ?_
        rintro e w9 ⟨v9, rfl, ho9, hb9⟩
        obtain ⟨a9, c9, rfl, -, -⟩ := (SlR.of_own ho9).shape
        have H9 := Lib.hid (H2.out.later hb9 H2.out.z)
        obtain ⟨⟨z0, z1, z2⟩, zy, ⟨t0, t1, t2⟩, u0, u1, u2⟩ := H9.out.facts
        have HO9 := Lib.hid ho9
        clear ho9 hb9
        go_wp2_with fail
        obtain ⟨⟨e0, e1, e2⟩, hb9⟩ := H9.out.fin (.int .i64 (madeR k n (eachL (shG by_) l)).1.1) (.int .i64 (madeR k n (eachL (shG by_) l)).1.2.1) (.slice a9 (madeR k n (eachL (shG by_) l)).1.2.2.length c9)
        refine bodyPost_ret (v := .tuple #[.agg #[.int .i64 (madeR k n (eachL (shG by_) l)).1.1, .int .i64 (madeR k n (eachL (shG by_) l)).1.2.1, .slice a9 (madeR k n (eachL (shG by_) l)).1.2.2.length c9], .int .i64 (madeR k n (eachL (shG by_) l)).2]) (by simp [results, Tryz.results35, go_sem, e0, e1, e2]) rfl ?_
        rw [HR.out]
        exact ⟨_, rfl, ownsRow_base (ownsRow_set3 HO9.out H2.out.z _ _ _) (by have := H2.out.z; omega), hb9⟩
      · have hk3 : k = 3 := hdir.resolve_left hge
        have hkb : (k == 3) = true := by rw [beq_iff_eq]; exact hk3
        have hlt0 : by_ < 0 := by omega
        clear hdir hge hk3
        go_wp2_with fail
        refine HE.out.mono ?_
        rintro e w9 ⟨v9, rfl, ho9, hb9⟩
        obtain ⟨a9, c9, rfl, -, -⟩ := (SlR.of_own ho9).shape
        have H9 := Lib.hid (H2.out.later hb9 H2.out.z)
        obtain ⟨⟨z0, z1, z2⟩, zy, ⟨t0, t1, t2⟩, u0, u1, u2⟩ := H9.out.facts
        have HO9 := Lib.hid ho9
        clear ho9 hb9
        go_wp2_with fail
        obtain ⟨⟨e0, e1, e2⟩, hb9⟩ := H9.out.fin (.int .i64 (madeR k n (eachL (shG by_) l)).1.1) (.int .i64 (madeR k n (eachL (shG by_) l)).1.2.1) (.slice a9 (madeR k n (eachL (shG by_) l)).1.2.2.length c9)
        refine bodyPost_ret (v := .tuple #[.agg #[.int .i64 (madeR k n (eachL (shG by_) l)).1.1, .int .i64 (madeR k n (eachL (shG by_) l)).1.2.1, .slice a9 (madeR k n (eachL (shG by_) l)).1.2.2.length c9], .int .i64 (madeR k n (eachL (shG by_) l)).2]) (by simp [results, Tryz.results35, go_sem, e0, e1, e2]) rfl ?_
        rw [HR.out]
        exact ⟨_, rfl, ownsRow_base (ownsRow_set3 HO9.out H2.out.z _ _ _) (by have := H2.out.z; omega), hb9⟩
    · have HR := Lib.hid (show shiftR k n l by_ = madeR k n (shTail k n l by_) by rw [HSV2.out, if_neg hdir])
      have hlt0 : by_ < 0 := by omega
      have hkb : (k == 3) = false := by rw [beq_eq_false_iff_ne]; exact fun h => hdir (.inr h)
      clear hdir
      have HA := Lib.hid (sig_at k n _ l (-by_) w2 HS2.out (by omega) HST.out (by omega) (by omega))
      go_wp2_with fail
      refine HA.out.mono ?_
      rintro e w3 ⟨rfl, hb3⟩
      have H3 := Lib.hid (H2.out.later hb3 H2.out.z)
      generalize hvA : valAt k n l (-by_) = vA at *
      have HvA := Lib.hid hvA
      have hsz3 := hb3.size
      have hsz2 := H2.out.z
      clear hb3 hvA c0 c1 c2 y0 r0 r1 r2 q0 q1 q2
      obtain ⟨⟨c0, c1, c2⟩, y0, ⟨r0, r1, r2⟩, q0, q1, q2⟩ := H3.out.facts
      go_upto_region 9 with fail
      have hown : (w3.alloc (.cells #[.int .i64 0, .string vA] 36)).ownsRow w3.heap.size 36 2 (.slice (some ⟨w3.heap.size, 0, none⟩) 1 1) 1 (chs [(0, vA)]) := World.ownsRow_lit w3 #[.int .i64 0, .string vA] 1 (Nat.le_refl _) (by simp [maxLen]) (by simp)
      have h4 := H3.out.later ((Below.refl w3.heap.size w3).alloc (Nat.le_refl _) (.cells #[.int .i64 0, .string vA] 36)) H3.out.z
      have HS4 := Lib.hid (HS.out.below h4.b)
      clear c0 c1 c2 y0 r0 r1 r2 q0 q1 q2
      obtain ⟨⟨c0, c1, c2⟩, y0, ⟨r0, r1, r2⟩, q0, q1, q2⟩ := h4.facts
      have HOWN := Lib.hid hown
      have H4 := Lib.hid h4
      have HB34 := Lib.hid ((Below.refl w3.heap.size w3).alloc (Nat.le_refl _) (.cells #[.int .i64 0, .string vA] 36))
      have hsz4 : w3.heap.size < (w3.alloc (.cells #[.int .i64 0, .string vA] 36)).heap.size := by simp
      clear hown h4
      generalize w3.alloc (.cells #[.int .i64 0, .string vA] 36) = w4 at *
      have hw1 : IntKind.i64.wrap (-by_) = -by_ := IntWalk.i64_in _ (by omega)
      have hw2 : IntKind.i64.wrap (-by_ + 1) = -by_ + 1 := IntWalk.i64_in _ (by omega)
      have hlo1 := lo_le l (-by_ + 1)
      obtain ⟨ad, cd, hrun, hsl⟩ := slice_tail a cap l (lo l (-by_ + 1)) hlo1
      have HSL := Lib.hid hsl
      clear hsl
      go_region_held3 (fun w' => w'.cell? ⟨w.heap.size, 0, none⟩ = some (.int .i64 k) ∧ w'.cell? ⟨w.heap.size, 1, none⟩ = some (.int .i64 n) ∧ w'.cell? ⟨w.heap.size, 2, none⟩ = some (.slice a l.length cap) ∧ w'.cell? ⟨w.heap.size + 1, 0, none⟩ = some (.int .i64 by_))
        (first | exact ⟨z0, z1, z2, zy⟩ | go_keep)
        ((go_at_call 57; (with_reducible refine (sig_first k n _ l (-by_ + 1) _ ?_ hln HST.out).mono ?_); (exact HS4.out); rintro e w5 ⟨rfl, hb5⟩; have hb5' := below_undrew hb5; have h5 := H4.out.later hb5' H4.out.z; obtain ⟨⟨z0, z1, z2⟩, zy, ⟨t0, t1, t2⟩, u0, u1, u2⟩ := h5.facts; have H5 := Lib.hid h5; have HB5 := Lib.hid hb5'; clear hb5 hb5' h5))
      clear hrun
      have HSR := Lib.hid (HSL.out w5 (HS4.out.below HB5.out))
      have hrl : (l.drop (lo l (-by_ + 1))).length ≤ 4096 := by rw [List.length_drop]; omega
      have hrm : ∀ c ∈ l.drop (lo l (-by_ + 1)), 0 ≤ c.1 ∧ c.1 ≤ 1099511627776 := fun c hc => by
        obtain ⟨j, hj, rfl⟩ := List.getElem_of_mem (List.mem_of_mem_drop hc)
        have := HMEM.out j hj
        exact ⟨this.1, this.2.1⟩
      have HRM := Lib.hid hrm
      have HRL := Lib.hid (show (l.drop (lo l (-by_ + 1))).length = l.length - lo l (-by_ + 1) from List.length_drop)
      have HT := Lib.hid (show shTail k n l by_ = (0, vA) :: (l.drop (lo l (-by_ + 1))).map (fun c => (c.1 + by_, c.2)) by unfold shTail; rw [HvA.out])
      clear hrm
      generalize l.drop (lo l (-by_ + 1)) = r at *
      obtain ⟨ar, cr, hvr, hcr, hmr⟩ := HSR.out.shape
      injection hvr with er1 _ er3
      subst er1 er3
      have HO5 := Lib.hid (HOWN.out.kept (w' := w5) (row := none) ⟨HB5.out.os, HB5.out.tape, HB5.out.output, HB5.out.size, fun i hi _ => HB5.out.block i hi⟩ (.inr (by simp [Value.ownBlock])))
      obtain ⟨i0, hi, iz0, iz1, iz2⟩ := info_parts (P := Tryz.prog) change_info
      have hsz5 := HB5.out.size
      go_wp2_with fail
      rw [← HRL.out]
      go_loopw [7, 69] (fun o_ i wr => ∃ (j : Nat) (out : List Ch), j ≤ r.length ∧ i = .int .i64 j ∧ out.length = j + 1 ∧ out = (0, vA) :: (r.take j).map (fun c => (c.1 + by_, c.2)) ∧ wr.ownsRow w3.heap.size 36 2 o_ out.length (chs out) ∧ Below w3.heap.size w3 wr ∧ ShSt w wr k n a l.length cap (.int .i64 by_))
        (fun _ i _ => r.length - (intOf i).toNat)
      case atStart => exact ⟨0, [(0, vA)], Nat.zero_le _, rfl, rfl, by simp, HO5.out, HB34.out.trans (HB5.out.mono HB34.out.size), H5.out⟩
      case round =>
        obtain ⟨j, out, hj, rfl, hol, hn, ho, hb, hsh⟩ := hrel
        obtain ⟨ao, co, rfl, hco, hmo⟩ := (SlR.of_own ho).shape
        clear c0 c1 c2 y0 r0 r1 r2 q0 q1 q2 z0 z1 z2 zy t0 t1 t2 u0 u1 u2
        obtain ⟨⟨c0, c1, c2⟩, y0, ⟨r0, r1, r2⟩, q0, q1, q2⟩ := hsh.facts
        have HO := Lib.hid ho
        have HB := Lib.hid hb
        have HN := Lib.hid hn
        have HSH := Lib.hid hsh
        have hszr := hb.size
        have hszw := H3.out.z
        have hol' : out.length ≤ 5000 := by omega
        have HOL := Lib.hid hol
        clear ho hb hn hsh hol
        by_cases hlt : j < r.length
        · obtain ⟨b, o, rfl, d0, d1⟩ := (HSL.out wr (HS.out.below HSH.out.b)).ch hlt
          have hrb := HRM.out r[j] (List.getElem_mem hlt)
          have HT2 := Lib.hid (List.take_succ_eq_append_getElem hlt)
          generalize r[j] = c at d0 d1 hrb HT2
          obtain ⟨t, s⟩ := c
          dsimp only at d0 d1 hrb
          obtain ⟨ht0, ht1⟩ := hrb
          have HN2 : Hid (out ++ [(t + by_, s)] = (0, vA) :: (r.take (j + 1)).map (fun c => (c.1 + by_, c.2))) := Lib.hid (by rw [HT2.out, HN.out]; simp)
          have hw3 : IntKind.i64.wrap (t + by_) = t + by_ := IntWalk.i64_in _ (by omega)
          have hw4 := nat_wrap j (by omega)
          have y1 := cell_alloc y0 (.cells #[.int .i64 t, .string s] 36)
          have HC := Lib.hid (World.news_of_block (w := (wr.alloc (.cells #[.int .i64 t, .string s] 36)).alloc (.cells #[.int .i64 (t + by_), .string s] 36)) (cs := #[.int .i64 (t + by_), .string s]) (t := 36) (fr := (0, 0)) (by exact heap_alloc2 wr _ _))
          have hbx : Below w3.heap.size wr ((wr.alloc (.cells #[.int .i64 t, .string s] 36)).alloc (.cells #[.int .i64 (t + by_), .string s] 36)) := ((Below.refl _ _).alloc hszr _).alloc (by simp; omega) _
          have HBX := Lib.hid hbx
          clear hbx
          go_wp2_with (at_builtin; refine wpList_append_own _ rfl _ _ 22 rfl w3.heap.size 36 i0 (.agg #[.int .i64 0, .string ⟨#[]⟩]) 2 24 Tryz.underlying22 hi iz0 iz1 iz2 rfl (by decide) _ _ _ rfl ((HO.out.alloc _).alloc _) ⟨wr.heap.size + 1, 0, none⟩ 1 1 [.int .i64 (t + by_), .string s] rfl rfl HC.out (by simp [Value.oneCell']) (by unfold maxLen; omega) (by omega) (by simp; omega) ?_)
          intro v6 w6 ho6 hg6 _
          have HO6 := Lib.hid ho6
          have hb6 := HBX.out.grown hg6 (by simp; omega) (fun q hq => (HO.out.lt q hq).1)
          have HB6 := Lib.hid (HB.out.trans hb6)
          have HSH6 := Lib.hid (HSH.out.later hb6 hszw)
          clear ho6 hg6 hb6
          go_wp2_with fail
          go_roundw
          case rel => exact ⟨j + 1, out ++ [(t + by_, s)], by omega, by go_num, by rw [List.length_append, HOL.out]; rfl, HN2.out, by rw [chs_append]; simpa [chs, encC] using HO6.out, HB6.out, HSH6.out⟩
          case measure => simp [intOf]; omega
        · obtain rfl : j = r.length := by omega
          have HE := Lib.hid (show shTail k n l by_ = out by rw [HT.out, HN.out, List.take_length])
          have HR2 := Lib.hid (HR.out.trans (by rw [HE.out]))
          clear HR
          have HR := HR2
          have HMD := Lib.hid (sig_made k n _ out wr (SlR.of_own HO.out) (by omega))
          go_wp2_with fail
          refine HMD.out.mono ?_
          rintro e w9 ⟨v9, rfl, ho9, hb9⟩
          obtain ⟨a9, c9, rfl, -, -⟩ := (SlR.of_own ho9).shape
          have H9 := Lib.hid (HSH.out.later hb9 HSH.out.z)
          obtain ⟨⟨z0, z1, z2⟩, zy, ⟨t0, t1, t2⟩, u0, u1, u2⟩ := H9.out.facts
          have HO9 := Lib.hid ho9
          clear ho9 hb9
          go_wp2_with fail
          obtain ⟨⟨e0, e1, e2⟩, hb9⟩ := H9.out.fin (.int .i64 (madeR k n out).1.1) (.int .i64 (madeR k n out).1.2.1) (.slice a9 (madeR k n out).1.2.2.length c9)
          refine bodyPost_ret (v := .tuple #[.agg #[.int .i64 (madeR k n out).1.1, .int .i64 (madeR k n out).1.2.1, .slice a9 (madeR k n out).1.2.2.length c9], .int .i64 (madeR k n out).2]) (by simp [results, Tryz.results35, go_sem, e0, e1, e2]) rfl ?_
          rw [HR.out]
          exact ⟨_, rfl, ownsRow_base (ownsRow_set3 HO9.out HSH.out.z _ _ _) (by have := HSH.out.z; omega), hb9⟩
end Go.Proofs.YtlbcfmhpkcpmaaaGreatDoor
