import Derived.Test.YtlbcfmhpkcpmaaaGreatDoorSig10
namespace Go.Proofs.YtlbcfmhpkcpmaaaGreatDoor
open Go.RowKit

def awL : List Ch := [(3, ⟨#[49]⟩), (3, ⟨#[48]⟩), (5, ⟨#[48]⟩), (7, ⟨#[49]⟩)]
def awS : List Ch := [(3, ⟨#[48]⟩), (7, ⟨#[49]⟩)]
def awP : List Ch := [(3, ⟨#[48]⟩), (4, ⟨#[122]⟩), (7, ⟨#[49]⟩)]
theorem aw1 : normalizeR 0 1 awL = ((0, 1, awS), 0) := by kernel_rfl
theorem aw2 : nextR 0 1 awS 3 = ((7, ⟨#[49]⟩), 0) := by kernel_rfl
theorem aw3 : atR 0 1 awS 2 = (⟨#[120]⟩, 0) := by kernel_rfl
theorem aw4 : putR 0 1 awS 4 7 ⟨#[122]⟩ = ((0, 1, awP), 0) := by kernel_rfl
theorem aw5 : sv 0 1 awP = true := by kernel_rfl

theorem own_sl {w : World} {b n cap : Nat} {C : Array Value} {xs : List Value} (h : OwnRow w b C.toList) (hx : xs = C.toList) (hn : n ≤ cap) (hm : cap ≤ maxLen) : SlR w (.slice (some ⟨b, 0, none⟩) n cap) n xs := by
  subst hx
  exact ⟨_, cap, rfl, hn, hm, fun h => by simp at h, fun _ => ⟨b, 0, rfl, fun j u hj => by rw [Nat.zero_add]; exact h.cell hj⟩⟩

set_option maxHeartbeats 1600000 in
set_option maxRecDepth 100000 in
theorem law_awake (w : World) (hg : Glob w) :
    Calls Tryz.prog 12 #[] w fun e w' => e = .returned (.bool true) ∧ Below w.heap.size w w' := by
  have HG := Lib.hid hg
  clear hg
  go_enter Tryz.func12, Tryz.ntmps12
  go_wp2_with fail
  have h0 := OwnRow.fresh w #[.int .i64 3, .string ⟨#[49]⟩, .int .i64 3, .string ⟨#[48]⟩, .int .i64 5, .string ⟨#[48]⟩, .int .i64 7, .string ⟨#[49]⟩] 36
  have hb0 : Below w.heap.size w (w.alloc (.cells #[.int .i64 3, .string ⟨#[49]⟩, .int .i64 3, .string ⟨#[48]⟩, .int .i64 5, .string ⟨#[48]⟩, .int .i64 7, .string ⟨#[49]⟩] 36)) := (Below.refl _ _).alloc (Nat.le_refl _) _
  refine (sig_Normalize 0 1 _ awL _ (HG.out.below hb0) (own_sl h0 rfl (Nat.le_refl _) (by decide)) (by unfold Fit awL; simp; decide)).mono ?_
  rw [aw1]
  rintro e w1 ⟨v1, rfl, ho1, hb1⟩
  have hs1 : SlR w1 v1 2 (chs awS) := SlR.of_own ho1
  obtain ⟨a1, c1, rfl, -, -⟩ := hs1.shape
  have HB1 := Lib.hid (hb0.trans (hb1.mono hb0.size))
  have HO1 := Lib.hid hs1
  clear hb0 hb1 h0 ho1 hs1
  go_wp2_with fail
  have hbx : Below w1.heap.size w1 (w1.alloc (.cells #[.int .i64 0, .int .i64 1, .slice a1 2 c1] 24)) := (Below.refl _ _).alloc (Nat.le_refl _) _
  refine (sig_Next 0 1 _ awS 3 _ (HG.out.below (HB1.out.trans (hbx.mono HB1.out.size))) (HO1.out.below hbx) (by unfold Fit; decide)).mono ?_
  rw [aw2]
  rintro e w2 ⟨rfl, hb2⟩
  obtain ⟨k0, k1, k2⟩ := box3 hb2
  have HB2 := Lib.hid (ext_alloc hb2)
  have g0 := cell_alloc k0 (.cells #[.int .i64 7, .string ⟨#[49]⟩] 36)
  have g1 := cell_alloc k1 (.cells #[.int .i64 7, .string ⟨#[49]⟩] 36)
  have g2 := cell_alloc k2 (.cells #[.int .i64 7, .string ⟨#[49]⟩] 36)
  clear hbx hb2
  go_wp2_with fail
  have hby : Below w2.heap.size w2 (w2.alloc (.cells #[.int .i64 7, .string ⟨#[49]⟩] 36)) := (Below.refl _ _).alloc (Nat.le_refl _) _
  have hbz := ext_trans HB2.out hby
  refine (sig_At 0 1 _ awS 2 _ (HG.out.below (ext_trans HB1.out hbz)) (HO1.out.below hbz) (by unfold Fit; decide)).mono ?_
  rw [aw3]
  rintro e w3 ⟨rfl, hb3⟩
  have e0 := (boxN hb3 0).1
  have e1 := (boxN hb3 1).1
  have hb3' := ext_alloc hb3
  have m0 := (hb3'.cell (p := ⟨w1.heap.size, 0, none⟩) (cell_lt k0)).trans k0
  have m1 := (hb3'.cell (p := ⟨w1.heap.size, 1, none⟩) (cell_lt k0)).trans k1
  have m2 := (hb3'.cell (p := ⟨w1.heap.size, 2, none⟩) (cell_lt k0)).trans k2
  have HB3 := Lib.hid (ext_trans HB2.out hb3')
  clear hby hbz hb3 hb3' k0 k1 k2 g0 g1 g2
  go_wp2_with fail
  refine (sig_Put 0 1 _ awS 4 7 ⟨#[122]⟩ _ (HG.out.below (ext_trans HB1.out HB3.out)) (HO1.out.below HB3.out) (by unfold Fit; decide) (by decide)).mono ?_
  rw [aw4]
  rintro e w4 ⟨v4, rfl, ho4, hb4⟩
  have hs4 : SlR w4 v4 3 (chs awP) := SlR.of_own ho4
  obtain ⟨a4, c4, rfl, -, -⟩ := hs4.shape
  have n0 := (hb4.cell (p := ⟨w1.heap.size, 0, none⟩) (cell_lt m0)).trans m0
  have n1 := (hb4.cell (p := ⟨w1.heap.size, 1, none⟩) (cell_lt m0)).trans m1
  have n2 := (hb4.cell (p := ⟨w1.heap.size, 2, none⟩) (cell_lt m0)).trans m2
  have f0 := (hb4.cell (p := ⟨w2.heap.size, 0, none⟩) (cell_lt e0)).trans e0
  have f1 := (hb4.cell (p := ⟨w2.heap.size, 1, none⟩) (cell_lt e0)).trans e1
  have HB4 := Lib.hid (ext_trans HB3.out hb4)
  have HO4 := Lib.hid hs4
  have d0 := cell_alloc n0 (.cells #[.int .i64 0, .int .i64 1, .slice a4 3 c4] 24)
  have d1 := cell_alloc n1 (.cells #[.int .i64 0, .int .i64 1, .slice a4 3 c4] 24)
  have d2 := cell_alloc n2 (.cells #[.int .i64 0, .int .i64 1, .slice a4 3 c4] 24)
  have d3 := cell_alloc f0 (.cells #[.int .i64 0, .int .i64 1, .slice a4 3 c4] 24)
  have d4 := cell_alloc f1 (.cells #[.int .i64 0, .int .i64 1, .slice a4 3 c4] 24)
  clear m0 m1 m2 e0 e1 ho4 hs4 hb4
  have hbq : Below w4.heap.size w4 (w4.alloc (.cells #[.int .i64 0, .int .i64 1, .slice a4 3 c4] 24)) := (Below.refl _ _).alloc (Nat.le_refl _) _
  have HV := Lib.hid (sig_Valid 0 1 _ awP _ (HG.out.below (ext_trans (ext_trans HB1.out HB4.out) hbq)) (HO4.out.below hbq) (by unfold Fit; decide))
  clear hbq
  go_wp2_with fail
  refine HV.out.mono ?_
  rw [aw5]
  rintro e w5 ⟨rfl, hb5⟩
  have HB5 := Lib.hid (ext_trans (ext_trans HB1.out HB4.out) (ext_alloc hb5))
  clear hb5
  go_wp2_with fail
  go_ret
  exact ⟨rfl, HB5.out⟩
end Go.Proofs.YtlbcfmhpkcpmaaaGreatDoor
