import Derived.Test.YtlbcfmhpkcpmaaaGreatDoorRefS
import Derived.Test.YtlbcfmhpkcpmaaaGreatDoorAw0
namespace Go.Proofs.YtlbcfmhpkcpmaaaGreatDoor
open Go.RowKit

theorem few_fit2 {l : List Ch} (h : few l 40 = true) : Fit l ∧ l.length ≤ 40 := by
  unfold few fewV at h
  rw [Bool.and_eq_true, List.all_eq_true, decide_eq_true_iff] at h
  obtain ⟨h1, h2⟩ := h
  refine ⟨⟨by omega, fun c hc => ?_⟩, by omega⟩
  have := of_decide_eq_true (h1 c hc)
  omega

set_option maxHeartbeats 400000 in
set_option maxRecDepth 100000 in
theorem law_same (k n e : Int) (v u : Value) (l : List Ch) (w : World) (hs : SlR w v l.length (chs l)) (ht : SlR w u l.length (chs l)) :
    Calls Tryz.prog 30 #[.agg #[.int .i64 k, .int .i64 n, v], .int .i64 e, .agg #[.int .i64 k, .int .i64 n, u], .int .i64 e] w fun e w' => e = .returned (.bool true) ∧ Below w.heap.size w w' := by
  obtain ⟨a, cap, rfl, hc, hm⟩ := hs.shape
  obtain ⟨a2, cap2, rfl, hc2, hm2⟩ := ht.shape
  have hbw : Below w.heap.size w ((w.alloc (.cells #[.int .i64 k, .int .i64 n, .slice a l.length cap] 24)).alloc (.cells #[.int .i64 k, .int .i64 n, .slice a2 l.length cap2] 24)) := ((Below.refl _ _).alloc (Nat.le_refl _) _).alloc (by simp) _
  have HE := Lib.hid (ref_Equal k n k n _ _ l l _ (hs.below hbw) (ht.below hbw))
  rw [show sEq k n l k n l = true by simp [sEq, sameC]] at HE
  have HB := Lib.hid hbw
  clear hs ht hbw
  go_enter Tryz.func30, Tryz.ntmps30
  go_wp2_with fail
  refine HE.out.mono ?_
  rintro e w1 ⟨rfl, hb⟩
  have HB2 := Lib.hid (HB.out.trans (hb.mono HB.out.size))
  clear hb
  go_wp2_with fail
  go_ret
  exact ⟨ret_bool (by simp), HB2.out⟩

/-- the variables of SignalEdits -/
structure EL (w W : World) (A B : List Value) (bx bY : Nat) (X Y : List Value) : Prop where
  ra : OwnRow W w.heap.size A
  rb : OwnRow W (w.heap.size + 1) B
  rx : OwnRow W bx X
  ry : OwnRow W bY Y
  b : Below w.heap.size w W
  z0 : w.heap.size + 1 < bx
  z1 : bx < bY
  z2 : bY < W.heap.size
section
variable {w W W' : World} {A B X Y : List Value} {bx bY : Nat}
theorem EL.later (h : EL w W A B bx bY X Y) (hb : Below W.heap.size W W') : EL w W' A B bx bY X Y :=
  have h0 := h.z0
  have h1 := h.z1
  have h2 := h.z2
  ⟨h.ra.below hb (by omega), h.rb.below hb (by omega), h.rx.below hb (by omega), h.ry.below hb h2, ext_trans h.b hb, h0, h1, Nat.lt_of_lt_of_le h2 hb.size⟩
theorem EL.setx {x y z : Value} (h : EL w W A B bx bY [x, y, z] Y) (p q r : Value) :
    EL w (((W.setCell ⟨bx, 0, none⟩ p).setCell ⟨bx, 1, none⟩ q).setCell ⟨bx, 2, none⟩ r) A B bx bY [p, q, r] Y :=
  have h0 := h.z0
  have h1 := h.z1
  ⟨((h.ra.setOther (by omega) _ _).setOther (by omega) _ _).setOther (by omega) _ _, ((h.rb.setOther (by omega) _ _).setOther (by omega) _ _).setOther (by omega) _ _,
    ((h.rx.set (j := 0) (by simp) p).set (j := 1) (by simp) q).set (j := 2) (by simp) r, ((h.ry.setOther (by omega) _ _).setOther (by omega) _ _).setOther (by omega) _ _,
    below_set3' h.b (by omega) _ _ _, h0, h1, by have := h.z2; simpa using this⟩
theorem EL.sety {x y z : Value} (h : EL w W A B bx bY X [x, y, z]) (p q r : Value) :
    EL w (((W.setCell ⟨bY, 0, none⟩ p).setCell ⟨bY, 1, none⟩ q).setCell ⟨bY, 2, none⟩ r) A B bx bY X [p, q, r] :=
  have h0 := h.z0
  have h1 := h.z1
  ⟨((h.ra.setOther (by omega) _ _).setOther (by omega) _ _).setOther (by omega) _ _, ((h.rb.setOther (by omega) _ _).setOther (by omega) _ _).setOther (by omega) _ _,
    ((h.rx.setOther (by omega) _ _).setOther (by omega) _ _).setOther (by omega) _ _, ((h.ry.set (j := 0) (by simp) p).set (j := 1) (by simp) q).set (j := 2) (by simp) r,
    below_set3' h.b (by omega) _ _ _, h0, h1, by have := h.z2; simpa using this⟩
end
theorem own_below {W W' : World} {B e size n : Nat} {v : Value} {xs : List Value} (h : W.ownsRow B e size v n xs) (hb : Below W.heap.size W W') : W'.ownsRow B e size v n xs :=
  h.kept (row := none) ⟨hb.os, hb.tape, hb.output, hb.size, fun i hi _ => hb.block i hi⟩ (by cases v.ownBlock <;> simp)


set_option maxHeartbeats 6400000 in
set_option maxRecDepth 100000 in
theorem law_SignalEdits (k n k2 n2 from_ to_ : Int) (v v2 : Value) (l m : List Ch) (s : ByteArray) (w : World) (hg : Glob w) (hs : SlR w v l.length (chs l)) (hs2 : SlR w v2 m.length (chs m)) :
    Calls Tryz.prog 6 #[.agg #[.int .i64 k, .int .i64 n, v], .agg #[.int .i64 k2, .int .i64 n2, v2], .int .i64 from_, .int .i64 to_, .string s] w fun e w' => e = .returned (.bool true) ∧ Below w.heap.size w w' := by
  obtain ⟨a, cap, rfl, hc, hm⟩ := hs.shape
  obtain ⟨a2, cap2, rfl, hc2, hm2⟩ := hs2.shape
  unfold maxLen at hm hm2
  have HS := Lib.hid hs
  have HSB := Lib.hid hs2
  have HG := Lib.hid hg
  have hbw : Below w.heap.size w ((w.alloc (.cells #[.int .i64 k, .int .i64 n, .slice a l.length cap] 24)).alloc (.cells #[.int .i64 k2, .int .i64 n2, .slice a2 m.length cap2] 24)) := ((Below.refl _ _).alloc (Nat.le_refl _) _).alloc (by simp) _
  have HR0 := Lib.hid ((OwnRow.fresh w #[.int .i64 k, .int .i64 n, .slice a l.length cap] 24).alloc (by simp) (.cells #[.int .i64 k2, .int .i64 n2, .slice a2 m.length cap2] 24))
  have hq0 := OwnRow.fresh (w.alloc (.cells #[.int .i64 k, .int .i64 n, .slice a l.length cap] 24)) #[.int .i64 k2, .int .i64 n2, .slice a2 m.length cap2] 24
  simp only [World.size_alloc] at hq0
  have HQ0 := Lib.hid hq0
  have HAW := Lib.hid (law_awake _ (HG.out.below hbw))
  have HBW := Lib.hid hbw
  clear hs hg hbw hq0 hs2
  go_enter Tryz.func6, Tryz.ntmps6
  go_wp2_with fail
  refine HAW.out.mono ?_
  rintro e w1 ⟨rfl, hb1⟩
  have HR1 := Lib.hid (HR0.out.below hb1 (by simp; omega))
  have HQ1 := Lib.hid (HQ0.out.below hb1 (by simp))
  have HB1 := Lib.hid (HBW.out.trans (hb1.mono HBW.out.size))
  have hl1 : w.heap.size + 1 < w1.heap.size := by have := hb1.size; simp at this; omega
  clear hb1 HR0 HQ0 HAW
  have p0 := HR1.out.cell (j := 0) rfl
  have p1 := HR1.out.cell (j := 1) rfl
  have p2 := HR1.out.cell (j := 2) rfl
  have b2 := HQ1.out.cell (j := 2) rfl
  go_wp2_with fail
  refine (ref_Few _ l 40 w1 (HS.out.below HB1.out)).mono ?_
  rintro e w1' ⟨rfl, rfl⟩
  cases hfew : few l 40
  · go_wp2_with fail
    go_ret
    exact ⟨rfl, HB1.out⟩
  obtain ⟨hfit, hl40⟩ := few_fit2 hfew
  have HF := Lib.hid hfit
  clear hfew hfit
  go_wp2_with fail
  refine (ref_Few _ m 40 w1' (HSB.out.below HB1.out)).mono ?_
  rintro e w1 ⟨rfl, hw1e⟩
  subst hw1e
  cases hfew : few m 40
  · go_wp2_with fail
    go_ret
    exact ⟨rfl, HB1.out⟩
  obtain ⟨hfit, hm40⟩ := few_fit2 hfew
  have HFB := Lib.hid hfit
  clear hfew hfit
  by_cases hsz : 200 < s.size
  · go_wp2_with fail
    go_ret
    exact ⟨rfl, HB1.out⟩
  have hsz2 : s.size ≤ 200 := by omega
  clear hsz
  have HC1 := Lib.hid (fun W hW hS => sig_Put k n (.slice a l.length cap) l from_ to_ s W hW hS HF.out (by omega))
  have HC2 := Lib.hid (fun W hS => ref_Put k n (.slice a l.length cap) l from_ to_ s W hS HF.out (by omega))
  obtain ⟨r, hr⟩ : ∃ r, r = putR k n l from_ to_ s := ⟨_, rfl⟩
  rw [← hr] at HC1 HC2
  obtain ⟨⟨zk, zn, zl⟩, zr⟩ := r
  clear hr
  go_wp2_with fail
  refine (HC1.out _ (HG.out.below HB1.out) (HS.out.below HB1.out)).mono ?_
  rintro e w2 ⟨v3, rfl, ho3, hb⟩
  dsimp only at ho3 ⊢
  obtain ⟨a3, cap3, rfl, -, -⟩ := (SlR.of_own ho3).shape
  have HX2 := Lib.hid (SlR.of_own ho3)
  have HB2 := Lib.hid (ext_trans HB1.out hb)
  have hx := OwnRow.fresh w2 #[.int .i64 zk, .int .i64 zn, .slice a3 zl.length cap3] 24
  have hsz3 := hb.size
  have HR2 := Lib.hid ((HR1.out.below hb (by omega)).alloc (by omega) (.cells #[.int .i64 zk, .int .i64 zn, .slice a3 zl.length cap3] 24))
  have HQ2 := Lib.hid ((HQ1.out.below hb (by omega)).alloc (by omega) (.cells #[.int .i64 zk, .int .i64 zn, .slice a3 zl.length cap3] 24))
  have HXR2 := Lib.hid hx
  clear ho3 hb hx p0 p1 p2 b2 HR1 HQ1
  have p0 := HR2.out.cell (j := 0) rfl
  have p1 := HR2.out.cell (j := 1) rfl
  have p2 := HR2.out.cell (j := 2) rfl
  go_wp2_with fail
  refine (HC2.out _ (HS.out.below (HB2.out.alloc HB2.out.size _))).mono ?_
  rintro e w3 ⟨v4, rfl, ho4, hb⟩
  dsimp only at ho4 ⊢
  obtain ⟨a4, cap4, rfl, -, -⟩ := (SlR.of_own ho4).shape
  have hsz4 := hb.size
  simp only [World.size_alloc] at hsz4
  have HSY := Lib.hid ((SlR.of_own ho4).below ((Below.refl w3.heap.size _).alloc (Nat.le_refl _) (.cells #[.int .i64 zk, .int .i64 zn, .slice a4 zl.length cap4] 24)))
  have HSX := Lib.hid ((HX2.out.below (ext_alloc hb)).below ((Below.refl w3.heap.size _).alloc (Nat.le_refl _) (.cells #[.int .i64 zk, .int .i64 zn, .slice a4 zl.length cap4] 24)))
  have HLY : Hid (EL w (w3.alloc (.cells #[.int .i64 zk, .int .i64 zn, .slice a4 zl.length cap4] 24)) [.int .i64 k, .int .i64 n, .slice a l.length cap] [.int .i64 k2, .int .i64 n2, .slice a2 m.length cap2] w2.heap.size w3.heap.size [.int .i64 zk, .int .i64 zn, .slice a3 zl.length cap3] [.int .i64 zk, .int .i64 zn, .slice a4 zl.length cap4]) := Lib.hid
    ⟨(HR2.out.below hb (by simp; omega)).alloc (by omega) _, (HQ2.out.below hb (by simp; omega)).alloc (by omega) _, (HXR2.out.below hb (by simp)).alloc (by omega) _, OwnRow.fresh w3 #[.int .i64 zk, .int .i64 zn, .slice a4 zl.length cap4] _,
      (ext_trans HB2.out (ext_alloc hb)).alloc (ext_trans HB2.out (ext_alloc hb)).size _, by omega, by omega, by simp⟩
  clear ho4 hb p0 p1 p2 HR2 HQ2 HXR2 HX2 HC1 HC2
  go_upto_region 8 with fail
  generalize w3.alloc (.cells #[.int .i64 zk, .int .i64 zn, .slice a4 zl.length cap4] 24) = w7 at HLY HSX HSY ⊢
  have x0 := HLY.out.rx.cell (j := 0) rfl
  have x1 := HLY.out.rx.cell (j := 1) rfl
  have x2 := HLY.out.rx.cell (j := 2) rfl
  have fx0 := HLY.out.rx.free (j := 0) (by simp)
  have fx1 := HLY.out.rx.free (j := 1) (by simp)
  have fx2 := HLY.out.rx.free (j := 2) (by simp)
  have y0 := HLY.out.ry.cell (j := 0) rfl
  have y1 := HLY.out.ry.cell (j := 1) rfl
  have y2 := HLY.out.ry.cell (j := 2) rfl
  have fy0 := HLY.out.ry.free (j := 0) (by simp)
  have fy1 := HLY.out.ry.free (j := 1) (by simp)
  have fy2 := HLY.out.ry.free (j := 2) (by simp)
  go_wp2_with fail
  refine (law_same zk zn zr _ _ zl _ HSX.out HSY.out).mono ?_
  rintro e w9 ⟨rfl, hb⟩
  have HL := Lib.hid (HLY.out.later hb)
  clear hb x0 x1 x2 fx0 fx1 fx2 y0 y1 y2 fy0 fy1 fy2 HSX HSY HLY
  have p0 := HL.out.ra.cell (j := 0) rfl
  have p1 := HL.out.ra.cell (j := 1) rfl
  have p2 := HL.out.ra.cell (j := 2) rfl
  have b0 := HL.out.rb.cell (j := 0) rfl
  have b1 := HL.out.rb.cell (j := 1) rfl
  have b2 := HL.out.rb.cell (j := 2) rfl
  have HC1 := Lib.hid (fun W hW hS hT => sig_Splice k n k2 n2 (.slice a l.length cap) (.slice a2 m.length cap2) l m from_ W hW hS HF.out hT HFB.out)
  have HC2 := Lib.hid (fun W hS hT => ref_Splice k n k2 n2 (.slice a l.length cap) (.slice a2 m.length cap2) l m from_ W hS HF.out hT HFB.out)
  obtain ⟨r, hr⟩ : ∃ r, r = spliceR k n l k2 n2 m from_ := ⟨_, rfl⟩
  rw [← hr] at HC1 HC2
  obtain ⟨⟨zk, zn, zl⟩, zr⟩ := r
  clear hr
  go_wp2_with fail
  refine (HC1.out _ (HG.out.below HL.out.b) (HS.out.below HL.out.b) (HSB.out.below HL.out.b)).mono ?_
  rintro e w4 ⟨v4, rfl, ho4, hb4⟩
  dsimp only at ho4 ⊢
  obtain ⟨a4, cap4, rfl, -, -⟩ := (SlR.of_own ho4).shape
  have HL4 := Lib.hid (HL.out.later hb4)
  have HOX4 := Lib.hid ho4
  have hzy := HL.out.z2
  have hzx := Nat.lt_trans HL.out.z1 HL.out.z2
  clear ho4 hb4 p0 p1 p2 b0 b1 b2
  have x0 := HL4.out.rx.cell (j := 0) rfl
  have x1 := HL4.out.rx.cell (j := 1) rfl
  have x2 := HL4.out.rx.cell (j := 2) rfl
  have fx0 := HL4.out.rx.free (j := 0) (by simp)
  have fx1 := HL4.out.rx.free (j := 1) (by simp)
  have fx2 := HL4.out.rx.free (j := 2) (by simp)
  go_upto_region 11 with fail
  have HLX := Lib.hid (HL4.out.setx (.int .i64 zk) (.int .i64 zn) (.slice a4 zl.length cap4))
  have HOX5 := Lib.hid (ownsRow_set3 HOX4.out hzx (.int .i64 zk) (.int .i64 zn) (.slice a4 zl.length cap4))
  generalize ((w4.setCell ⟨w2.heap.size, 0, none⟩ (.int .i64 zk)).setCell ⟨w2.heap.size, 1, none⟩ (.int .i64 zn)).setCell ⟨w2.heap.size, 2, none⟩ (.slice a4 zl.length cap4) = w5 at HLX HOX5 ⊢
  clear x0 x1 x2 fx0 fx1 fx2 HL HL4 HOX4 hzx
  have p0 := HLX.out.ra.cell (j := 0) rfl
  have p1 := HLX.out.ra.cell (j := 1) rfl
  have p2 := HLX.out.ra.cell (j := 2) rfl
  have b0 := HLX.out.rb.cell (j := 0) rfl
  have b1 := HLX.out.rb.cell (j := 1) rfl
  have b2 := HLX.out.rb.cell (j := 2) rfl
  go_wp2_with fail
  refine (HC2.out _ (HS.out.below HLX.out.b) (HSB.out.below HLX.out.b)).mono ?_
  rintro e w6 ⟨v6, rfl, ho6, hb6⟩
  dsimp only at ho6 ⊢
  obtain ⟨a6, cap6, rfl, -, -⟩ := (SlR.of_own ho6).shape
  have HL6 := Lib.hid (HLX.out.later hb6)
  have HOX6 := Lib.hid (own_below HOX5.out hb6)
  have HOY6 := Lib.hid ho6
  have hzy5 := HLX.out.z2
  clear ho6 hb6 p0 p1 p2 b0 b1 b2 HOX5 HLX
  have y0 := HL6.out.ry.cell (j := 0) rfl
  have y1 := HL6.out.ry.cell (j := 1) rfl
  have y2 := HL6.out.ry.cell (j := 2) rfl
  have fy0 := HL6.out.ry.free (j := 0) (by simp)
  have fy1 := HL6.out.ry.free (j := 1) (by simp)
  have fy2 := HL6.out.ry.free (j := 2) (by simp)
  go_upto_region 12 with fail
  have HLY := Lib.hid (HL6.out.sety (.int .i64 zk) (.int .i64 zn) (.slice a6 zl.length cap6))
  have HOX7 := Lib.hid (ownsRow_set3 HOX6.out hzy (.int .i64 zk) (.int .i64 zn) (.slice a6 zl.length cap6))
  have HOY7 := Lib.hid (ownsRow_set3 HOY6.out hzy5 (.int .i64 zk) (.int .i64 zn) (.slice a6 zl.length cap6))
  generalize ((w6.setCell ⟨w3.heap.size, 0, none⟩ (.int .i64 zk)).setCell ⟨w3.heap.size, 1, none⟩ (.int .i64 zn)).setCell ⟨w3.heap.size, 2, none⟩ (.slice a6 zl.length cap6) = w7 at HLY HOX7 HOY7 ⊢
  have HSX := Lib.hid (SlR.of_own HOX7.out)
  have HSY := Lib.hid (SlR.of_own HOY7.out)
  clear y0 y1 y2 fy0 fy1 fy2 HL6 HOX6 HOY6 HOX7 HOY7 hzy hzy5 HC1 HC2
  have x0 := HLY.out.rx.cell (j := 0) rfl
  have x1 := HLY.out.rx.cell (j := 1) rfl
  have x2 := HLY.out.rx.cell (j := 2) rfl
  have fx0 := HLY.out.rx.free (j := 0) (by simp)
  have fx1 := HLY.out.rx.free (j := 1) (by simp)
  have fx2 := HLY.out.rx.free (j := 2) (by simp)
  have y0 := HLY.out.ry.cell (j := 0) rfl
  have y1 := HLY.out.ry.cell (j := 1) rfl
  have y2 := HLY.out.ry.cell (j := 2) rfl
  have fy0 := HLY.out.ry.free (j := 0) (by simp)
  have fy1 := HLY.out.ry.free (j := 1) (by simp)
  have fy2 := HLY.out.ry.free (j := 2) (by simp)
  go_wp2_with fail
  refine (law_same zk zn zr _ _ zl _ HSX.out HSY.out).mono ?_
  rintro e w9 ⟨rfl, hb⟩
  have HL := Lib.hid (HLY.out.later hb)
  clear hb x0 x1 x2 fx0 fx1 fx2 y0 y1 y2 fy0 fy1 fy2 HSX HSY HLY
  have p0 := HL.out.ra.cell (j := 0) rfl
  have p1 := HL.out.ra.cell (j := 1) rfl
  have p2 := HL.out.ra.cell (j := 2) rfl
  have b0 := HL.out.rb.cell (j := 0) rfl
  have b1 := HL.out.rb.cell (j := 1) rfl
  have b2 := HL.out.rb.cell (j := 2) rfl
  have HC1 := Lib.hid (fun W hW hS hT => have _hT : SlR W (.slice a2 m.length cap2) m.length (chs m) := hT; sig_Shift k n (.slice a l.length cap) l to_ W hW hS HF.out)
  have HC2 := Lib.hid (fun W hS hT => have _hT : SlR W (.slice a2 m.length cap2) m.length (chs m) := hT; ref_Shift k n (.slice a l.length cap) l to_ W hS HF.out)
  obtain ⟨r, hr⟩ : ∃ r, r = shiftR k n l to_ := ⟨_, rfl⟩
  rw [← hr] at HC1 HC2
  obtain ⟨⟨zk, zn, zl⟩, zr⟩ := r
  clear hr
  go_wp2_with fail
  refine (HC1.out _ (HG.out.below HL.out.b) (HS.out.below HL.out.b) (HSB.out.below HL.out.b)).mono ?_
  rintro e w4 ⟨v4, rfl, ho4, hb4⟩
  dsimp only at ho4 ⊢
  obtain ⟨a4, cap4, rfl, -, -⟩ := (SlR.of_own ho4).shape
  have HL4 := Lib.hid (HL.out.later hb4)
  have HOX4 := Lib.hid ho4
  have hzy := HL.out.z2
  have hzx := Nat.lt_trans HL.out.z1 HL.out.z2
  clear ho4 hb4 p0 p1 p2 b0 b1 b2
  have x0 := HL4.out.rx.cell (j := 0) rfl
  have x1 := HL4.out.rx.cell (j := 1) rfl
  have x2 := HL4.out.rx.cell (j := 2) rfl
  have fx0 := HL4.out.rx.free (j := 0) (by simp)
  have fx1 := HL4.out.rx.free (j := 1) (by simp)
  have fx2 := HL4.out.rx.free (j := 2) (by simp)
  go_upto_region 15 with fail
  have HLX := Lib.hid (HL4.out.setx (.int .i64 zk) (.int .i64 zn) (.slice a4 zl.length cap4))
  have HOX5 := Lib.hid (ownsRow_set3 HOX4.out hzx (.int .i64 zk) (.int .i64 zn) (.slice a4 zl.length cap4))
  generalize ((w4.setCell ⟨w2.heap.size, 0, none⟩ (.int .i64 zk)).setCell ⟨w2.heap.size, 1, none⟩ (.int .i64 zn)).setCell ⟨w2.heap.size, 2, none⟩ (.slice a4 zl.length cap4) = w5 at HLX HOX5 ⊢
  clear x0 x1 x2 fx0 fx1 fx2 HL HL4 HOX4 hzx
  have p0 := HLX.out.ra.cell (j := 0) rfl
  have p1 := HLX.out.ra.cell (j := 1) rfl
  have p2 := HLX.out.ra.cell (j := 2) rfl
  have b0 := HLX.out.rb.cell (j := 0) rfl
  have b1 := HLX.out.rb.cell (j := 1) rfl
  have b2 := HLX.out.rb.cell (j := 2) rfl
  go_wp2_with fail
  refine (HC2.out _ (HS.out.below HLX.out.b) (HSB.out.below HLX.out.b)).mono ?_
  rintro e w6 ⟨v6, rfl, ho6, hb6⟩
  dsimp only at ho6 ⊢
  obtain ⟨a6, cap6, rfl, -, -⟩ := (SlR.of_own ho6).shape
  have HL6 := Lib.hid (HLX.out.later hb6)
  have HOX6 := Lib.hid (own_below HOX5.out hb6)
  have HOY6 := Lib.hid ho6
  have hzy5 := HLX.out.z2
  clear ho6 hb6 p0 p1 p2 b0 b1 b2 HOX5 HLX
  have y0 := HL6.out.ry.cell (j := 0) rfl
  have y1 := HL6.out.ry.cell (j := 1) rfl
  have y2 := HL6.out.ry.cell (j := 2) rfl
  have fy0 := HL6.out.ry.free (j := 0) (by simp)
  have fy1 := HL6.out.ry.free (j := 1) (by simp)
  have fy2 := HL6.out.ry.free (j := 2) (by simp)
  go_upto_region 16 with fail
  have HLY := Lib.hid (HL6.out.sety (.int .i64 zk) (.int .i64 zn) (.slice a6 zl.length cap6))
  have HOX7 := Lib.hid (ownsRow_set3 HOX6.out hzy (.int .i64 zk) (.int .i64 zn) (.slice a6 zl.length cap6))
  have HOY7 := Lib.hid (ownsRow_set3 HOY6.out hzy5 (.int .i64 zk) (.int .i64 zn) (.slice a6 zl.length cap6))
  generalize ((w6.setCell ⟨w3.heap.size, 0, none⟩ (.int .i64 zk)).setCell ⟨w3.heap.size, 1, none⟩ (.int .i64 zn)).setCell ⟨w3.heap.size, 2, none⟩ (.slice a6 zl.length cap6) = w7 at HLY HOX7 HOY7 ⊢
  have HSX := Lib.hid (SlR.of_own HOX7.out)
  have HSY := Lib.hid (SlR.of_own HOY7.out)
  clear y0 y1 y2 fy0 fy1 fy2 HL6 HOX6 HOY6 HOX7 HOY7 hzy hzy5 HC1 HC2
  have x0 := HLY.out.rx.cell (j := 0) rfl
  have x1 := HLY.out.rx.cell (j := 1) rfl
  have x2 := HLY.out.rx.cell (j := 2) rfl
  have fx0 := HLY.out.rx.free (j := 0) (by simp)
  have fx1 := HLY.out.rx.free (j := 1) (by simp)
  have fx2 := HLY.out.rx.free (j := 2) (by simp)
  have y0 := HLY.out.ry.cell (j := 0) rfl
  have y1 := HLY.out.ry.cell (j := 1) rfl
  have y2 := HLY.out.ry.cell (j := 2) rfl
  have fy0 := HLY.out.ry.free (j := 0) (by simp)
  have fy1 := HLY.out.ry.free (j := 1) (by simp)
  have fy2 := HLY.out.ry.free (j := 2) (by simp)
  go_wp2_with fail
  refine (law_same zk zn zr _ _ zl _ HSX.out HSY.out).mono ?_
  rintro e w9 ⟨rfl, hb⟩
  have HL := Lib.hid (HLY.out.later hb)
  clear hb x0 x1 x2 fx0 fx1 fx2 y0 y1 y2 fy0 fy1 fy2 HSX HSY HLY
  have p0 := HL.out.ra.cell (j := 0) rfl
  have p1 := HL.out.ra.cell (j := 1) rfl
  have p2 := HL.out.ra.cell (j := 2) rfl
  have b0 := HL.out.rb.cell (j := 0) rfl
  have b1 := HL.out.rb.cell (j := 1) rfl
  have b2 := HL.out.rb.cell (j := 2) rfl
  have HC1 := Lib.hid (fun W hW hS hT => have _hT : SlR W (.slice a2 m.length cap2) m.length (chs m) := hT; sig_Slice k n (.slice a l.length cap) l from_ to_ W hW hS HF.out)
  have HC2 := Lib.hid (fun W hS hT => have _hT : SlR W (.slice a2 m.length cap2) m.length (chs m) := hT; ref_sSlice k n (.slice a l.length cap) l from_ to_ W hS HF.out)
  obtain ⟨r, hr⟩ : ∃ r, r = sliceR k n l from_ to_ := ⟨_, rfl⟩
  rw [← hr] at HC1 HC2
  obtain ⟨⟨zk, zn, zl⟩, zr⟩ := r
  clear hr
  go_wp2_with fail
  refine (HC1.out _ (HG.out.below HL.out.b) (HS.out.below HL.out.b) (HSB.out.below HL.out.b)).mono ?_
  rintro e w4 ⟨v4, rfl, ho4, hb4⟩
  dsimp only at ho4 ⊢
  obtain ⟨a4, cap4, rfl, -, -⟩ := (SlR.of_own ho4).shape
  have HL4 := Lib.hid (HL.out.later hb4)
  have HOX4 := Lib.hid ho4
  have hzy := HL.out.z2
  have hzx := Nat.lt_trans HL.out.z1 HL.out.z2
  clear ho4 hb4 p0 p1 p2 b0 b1 b2
  have x0 := HL4.out.rx.cell (j := 0) rfl
  have x1 := HL4.out.rx.cell (j := 1) rfl
  have x2 := HL4.out.rx.cell (j := 2) rfl
  have fx0 := HL4.out.rx.free (j := 0) (by simp)
  have fx1 := HL4.out.rx.free (j := 1) (by simp)
  have fx2 := HL4.out.rx.free (j := 2) (by simp)
  go_upto_region 19 with fail
  have HLX := Lib.hid (HL4.out.setx (.int .i64 zk) (.int .i64 zn) (.slice a4 zl.length cap4))
  have HOX5 := Lib.hid (ownsRow_set3 HOX4.out hzx (.int .i64 zk) (.int .i64 zn) (.slice a4 zl.length cap4))
  generalize ((w4.setCell ⟨w2.heap.size, 0, none⟩ (.int .i64 zk)).setCell ⟨w2.heap.size, 1, none⟩ (.int .i64 zn)).setCell ⟨w2.heap.size, 2, none⟩ (.slice a4 zl.length cap4) = w5 at HLX HOX5 ⊢
  clear x0 x1 x2 fx0 fx1 fx2 HL HL4 HOX4 hzx
  have p0 := HLX.out.ra.cell (j := 0) rfl
  have p1 := HLX.out.ra.cell (j := 1) rfl
  have p2 := HLX.out.ra.cell (j := 2) rfl
  have b0 := HLX.out.rb.cell (j := 0) rfl
  have b1 := HLX.out.rb.cell (j := 1) rfl
  have b2 := HLX.out.rb.cell (j := 2) rfl
  go_wp2_with fail
  refine (HC2.out _ (HS.out.below HLX.out.b) (HSB.out.below HLX.out.b)).mono ?_
  rintro e w6 ⟨v6, rfl, ho6, hb6⟩
  dsimp only at ho6 ⊢
  obtain ⟨a6, cap6, rfl, -, -⟩ := (SlR.of_own ho6).shape
  have HL6 := Lib.hid (HLX.out.later hb6)
  have HOX6 := Lib.hid (own_below HOX5.out hb6)
  have HOY6 := Lib.hid ho6
  have hzy5 := HLX.out.z2
  clear ho6 hb6 p0 p1 p2 b0 b1 b2 HOX5 HLX
  have y0 := HL6.out.ry.cell (j := 0) rfl
  have y1 := HL6.out.ry.cell (j := 1) rfl
  have y2 := HL6.out.ry.cell (j := 2) rfl
  have fy0 := HL6.out.ry.free (j := 0) (by simp)
  have fy1 := HL6.out.ry.free (j := 1) (by simp)
  have fy2 := HL6.out.ry.free (j := 2) (by simp)
  go_upto_region 20 with fail
  have HLY := Lib.hid (HL6.out.sety (.int .i64 zk) (.int .i64 zn) (.slice a6 zl.length cap6))
  have HOX7 := Lib.hid (ownsRow_set3 HOX6.out hzy (.int .i64 zk) (.int .i64 zn) (.slice a6 zl.length cap6))
  have HOY7 := Lib.hid (ownsRow_set3 HOY6.out hzy5 (.int .i64 zk) (.int .i64 zn) (.slice a6 zl.length cap6))
  generalize ((w6.setCell ⟨w3.heap.size, 0, none⟩ (.int .i64 zk)).setCell ⟨w3.heap.size, 1, none⟩ (.int .i64 zn)).setCell ⟨w3.heap.size, 2, none⟩ (.slice a6 zl.length cap6) = w7 at HLY HOX7 HOY7 ⊢
  have HSX := Lib.hid (SlR.of_own HOX7.out)
  have HSY := Lib.hid (SlR.of_own HOY7.out)
  clear y0 y1 y2 fy0 fy1 fy2 HL6 HOX6 HOY6 HOX7 HOY7 hzy hzy5 HC1 HC2
  have x0 := HLY.out.rx.cell (j := 0) rfl
  have x1 := HLY.out.rx.cell (j := 1) rfl
  have x2 := HLY.out.rx.cell (j := 2) rfl
  have fx0 := HLY.out.rx.free (j := 0) (by simp)
  have fx1 := HLY.out.rx.free (j := 1) (by simp)
  have fx2 := HLY.out.rx.free (j := 2) (by simp)
  have y0 := HLY.out.ry.cell (j := 0) rfl
  have y1 := HLY.out.ry.cell (j := 1) rfl
  have y2 := HLY.out.ry.cell (j := 2) rfl
  have fy0 := HLY.out.ry.free (j := 0) (by simp)
  have fy1 := HLY.out.ry.free (j := 1) (by simp)
  have fy2 := HLY.out.ry.free (j := 2) (by simp)
  go_wp2_with fail
  refine (law_same zk zn zr _ _ zl _ HSX.out HSY.out).mono ?_
  rintro e w9 ⟨rfl, hb⟩
  have HL := Lib.hid (HLY.out.later hb)
  clear hb x0 x1 x2 fx0 fx1 fx2 y0 y1 y2 fy0 fy1 fy2 HSX HSY HLY
  have p0 := HL.out.ra.cell (j := 0) rfl
  have p1 := HL.out.ra.cell (j := 1) rfl
  have p2 := HL.out.ra.cell (j := 2) rfl
  have b0 := HL.out.rb.cell (j := 0) rfl
  have b1 := HL.out.rb.cell (j := 1) rfl
  have b2 := HL.out.rb.cell (j := 2) rfl
  have HC1 := Lib.hid (fun W hW hS hT => have _hT : SlR W (.slice a2 m.length cap2) m.length (chs m) := hT; sig_Invert k n (.slice a l.length cap) l W hW hS HF.out)
  have HC2 := Lib.hid (fun W hS hT => have _hT : SlR W (.slice a2 m.length cap2) m.length (chs m) := hT; ref_Invert k n (.slice a l.length cap) l W hS HF.out)
  obtain ⟨r, hr⟩ : ∃ r, r = invR k n l := ⟨_, rfl⟩
  rw [← hr] at HC1 HC2
  obtain ⟨⟨zk, zn, zl⟩, zr⟩ := r
  clear hr
  go_wp2_with fail
  refine (HC1.out _ (HG.out.below HL.out.b) (HS.out.below HL.out.b) (HSB.out.below HL.out.b)).mono ?_
  rintro e w4 ⟨v4, rfl, ho4, hb4⟩
  dsimp only at ho4 ⊢
  obtain ⟨a4, cap4, rfl, -, -⟩ := (SlR.of_own ho4).shape
  have HL4 := Lib.hid (HL.out.later hb4)
  have HOX4 := Lib.hid ho4
  have hzy := HL.out.z2
  have hzx := Nat.lt_trans HL.out.z1 HL.out.z2
  clear ho4 hb4 p0 p1 p2 b0 b1 b2
  have x0 := HL4.out.rx.cell (j := 0) rfl
  have x1 := HL4.out.rx.cell (j := 1) rfl
  have x2 := HL4.out.rx.cell (j := 2) rfl
  have fx0 := HL4.out.rx.free (j := 0) (by simp)
  have fx1 := HL4.out.rx.free (j := 1) (by simp)
  have fx2 := HL4.out.rx.free (j := 2) (by simp)
  go_upto_region 23 with fail
  have HLX := Lib.hid (HL4.out.setx (.int .i64 zk) (.int .i64 zn) (.slice a4 zl.length cap4))
  have HOX5 := Lib.hid (ownsRow_set3 HOX4.out hzx (.int .i64 zk) (.int .i64 zn) (.slice a4 zl.length cap4))
  generalize ((w4.setCell ⟨w2.heap.size, 0, none⟩ (.int .i64 zk)).setCell ⟨w2.heap.size, 1, none⟩ (.int .i64 zn)).setCell ⟨w2.heap.size, 2, none⟩ (.slice a4 zl.length cap4) = w5 at HLX HOX5 ⊢
  clear x0 x1 x2 fx0 fx1 fx2 HL HL4 HOX4 hzx
  have p0 := HLX.out.ra.cell (j := 0) rfl
  have p1 := HLX.out.ra.cell (j := 1) rfl
  have p2 := HLX.out.ra.cell (j := 2) rfl
  have b0 := HLX.out.rb.cell (j := 0) rfl
  have b1 := HLX.out.rb.cell (j := 1) rfl
  have b2 := HLX.out.rb.cell (j := 2) rfl
  go_wp2_with fail
  refine (HC2.out _ (HS.out.below HLX.out.b) (HSB.out.below HLX.out.b)).mono ?_
  rintro e w6 ⟨v6, rfl, ho6, hb6⟩
  dsimp only at ho6 ⊢
  obtain ⟨a6, cap6, rfl, -, -⟩ := (SlR.of_own ho6).shape
  have HL6 := Lib.hid (HLX.out.later hb6)
  have HOX6 := Lib.hid (own_below HOX5.out hb6)
  have HOY6 := Lib.hid ho6
  have hzy5 := HLX.out.z2
  clear ho6 hb6 p0 p1 p2 b0 b1 b2 HOX5 HLX
  have y0 := HL6.out.ry.cell (j := 0) rfl
  have y1 := HL6.out.ry.cell (j := 1) rfl
  have y2 := HL6.out.ry.cell (j := 2) rfl
  have fy0 := HL6.out.ry.free (j := 0) (by simp)
  have fy1 := HL6.out.ry.free (j := 1) (by simp)
  have fy2 := HL6.out.ry.free (j := 2) (by simp)
  go_upto_region 24 with fail
  have HLY := Lib.hid (HL6.out.sety (.int .i64 zk) (.int .i64 zn) (.slice a6 zl.length cap6))
  have HOX7 := Lib.hid (ownsRow_set3 HOX6.out hzy (.int .i64 zk) (.int .i64 zn) (.slice a6 zl.length cap6))
  have HOY7 := Lib.hid (ownsRow_set3 HOY6.out hzy5 (.int .i64 zk) (.int .i64 zn) (.slice a6 zl.length cap6))
  generalize ((w6.setCell ⟨w3.heap.size, 0, none⟩ (.int .i64 zk)).setCell ⟨w3.heap.size, 1, none⟩ (.int .i64 zn)).setCell ⟨w3.heap.size, 2, none⟩ (.slice a6 zl.length cap6) = w7 at HLY HOX7 HOY7 ⊢
  have HSX := Lib.hid (SlR.of_own HOX7.out)
  have HSY := Lib.hid (SlR.of_own HOY7.out)
  clear y0 y1 y2 fy0 fy1 fy2 HL6 HOX6 HOY6 HOX7 HOY7 hzy hzy5 HC1 HC2
  have x0 := HLY.out.rx.cell (j := 0) rfl
  have x1 := HLY.out.rx.cell (j := 1) rfl
  have x2 := HLY.out.rx.cell (j := 2) rfl
  have fx0 := HLY.out.rx.free (j := 0) (by simp)
  have fx1 := HLY.out.rx.free (j := 1) (by simp)
  have fx2 := HLY.out.rx.free (j := 2) (by simp)
  have y0 := HLY.out.ry.cell (j := 0) rfl
  have y1 := HLY.out.ry.cell (j := 1) rfl
  have y2 := HLY.out.ry.cell (j := 2) rfl
  have fy0 := HLY.out.ry.free (j := 0) (by simp)
  have fy1 := HLY.out.ry.free (j := 1) (by simp)
  have fy2 := HLY.out.ry.free (j := 2) (by simp)
  go_wp2_with fail
  refine (law_same zk zn zr _ _ zl _ HSX.out HSY.out).mono ?_
  rintro e w9 ⟨rfl, hb⟩
  have HL := Lib.hid (HLY.out.later hb)
  clear hb x0 x1 x2 fx0 fx1 fx2 y0 y1 y2 fy0 fy1 fy2 HSX HSY HLY
  have p0 := HL.out.ra.cell (j := 0) rfl
  have p1 := HL.out.ra.cell (j := 1) rfl
  have p2 := HL.out.ra.cell (j := 2) rfl
  have b0 := HL.out.rb.cell (j := 0) rfl
  have b1 := HL.out.rb.cell (j := 1) rfl
  have b2 := HL.out.rb.cell (j := 2) rfl
  go_wp2_with fail
  go_ret
  exact ⟨ret_bool (by simp), HL.out.b⟩
end Go.Proofs.YtlbcfmhpkcpmaaaGreatDoor
