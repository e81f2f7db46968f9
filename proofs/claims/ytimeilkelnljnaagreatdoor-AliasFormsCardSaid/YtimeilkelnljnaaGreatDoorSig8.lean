import Derived.Test.YtimeilkelnljnaaGreatDoorSig7
namespace Go.Proofs.YtimeilkelnljnaaGreatDoor
open Go.RowKit

abbrev SigR := (Int × Int × List Ch) × Int
def SigPost (r : SigR) (w : World) (e : Ending) (w' : World) : Prop := ∃ v', e = .returned (.tuple #[.agg #[.int .i64 r.1.1, .int .i64 r.1.2.1, v'], .int .i64 r.2]) ∧ w'.ownsRow w.heap.size 75 2 v' r.1.2.2.length (chs r.1.2.2) ∧ Below w.heap.size w w'
theorem SigPost.zero {w W : World} (e : Int) (h : Below w.heap.size w W) : SigPost ((0, 0, []), e) w (.returned (.tuple #[.agg #[.int .i64 0, .int .i64 0, .slice none 0 0], .int .i64 e])) W := ⟨_, rfl, World.ownsRow_nil _ _ _ _, h⟩
def madeR (k n : Int) (l : List Ch) : SigR := if 4096 < (normS k n l).length then ((0, 0, []), 9) else ((k, n, normS k n l), 0)


theorem ownsRow_set3 {w : World} {base e size : Nat} {v : Value} {n : Nat} {xs : List Value} {b : Nat} (h : w.ownsRow base e size v n xs) (hb : b < base) (p q r : Value) :
    (((w.setCell ⟨b, 0, none⟩ p).setCell ⟨b, 1, none⟩ q).setCell ⟨b, 2, none⟩ r).ownsRow base e size v n xs :=
  ownsRow_setCell_below (ownsRow_setCell_below (ownsRow_setCell_below h hb _) hb _) hb _
theorem ownsRow_base {w : World} {base base' e size : Nat} {v : Value} {n : Nat} {xs : List Value} (h : w.ownsRow base e size v n xs) (hb : base' ≤ base) : w.ownsRow base' e size v n xs := by
  refine ⟨h.1, ?_⟩
  rcases h.2 with h2 | ⟨g, cap, cur, h1, h2, h3⟩
  · exact .inl h2
  · exact .inr ⟨g, cap, cur, h1, by omega, h3⟩
theorem below_set3 {w W : World} (h : Below w.heap.size w W) (p q r : Value) : Below w.heap.size w (((W.setCell ⟨w.heap.size, 0, none⟩ p).setCell ⟨w.heap.size, 1, none⟩ q).setCell ⟨w.heap.size, 2, none⟩ r) :=
  ((h.setCell (Nat.le_refl _) _).setCell (Nat.le_refl _) _).setCell (Nat.le_refl _) _

set_option maxHeartbeats 800000 in
set_option maxRecDepth 100000 in
theorem sig_made (k n : Int) (v : Value) (l : List Ch) (w : World) (hs : SlR w v l.length (chs l)) (hl : l.length ≤ 1000000) :
    Calls Tryz.prog 103 #[.int .i64 k, .int .i64 n, v] w (SigPost (madeR k n l) w) := by
  obtain ⟨a, cap, rfl, hc, hm⟩ := hs.shape
  have hbw : Below w.heap.size w (w.alloc (.cells #[.int .i64 0, .int .i64 0, .slice none 0 0] 37)) := (Below.refl _ _).alloc (Nat.le_refl _) _
  have HN := Lib.hid (sig_normal k n _ l _ (hs.below hbw) hl)
  have hnl : (normS k n l).length ≤ l.length := normGo_len k l _
  clear hs hbw
  go_enter Tryz.func103, Tryz.ntmps103
  go_wp2_with fail
  refine HN.out.mono ?_
  rintro e w1 ⟨v1, rfl, ho, hb⟩
  obtain ⟨a1, cap1, rfl, hc1, hm1⟩ := (SlR.of_own ho).shape
  obtain ⟨c0, c1, c2⟩ := box3 hb
  obtain ⟨f0, f1, f2⟩ := box3f hb
  have HB := Lib.hid (ext_alloc hb)
  have HO := Lib.hid ho
  clear hb ho
  by_cases hbig : 4096 < (normS k n l).length
  · have HR := Lib.hid (show madeR k n l = ((0, 0, []), 9) by unfold madeR; rw [if_pos hbig])
    go_wp2_with fail
    refine bodyPost_ret (v := .tuple #[.agg #[.int .i64 0, .int .i64 0, .slice none 0 0], .int .i64 9]) (by simp [results, Tryz.results103, go_sem, c0, c1, c2]) rfl ?_
    rw [HR.out]
    exact SigPost.zero 9 (below_set3 HB.out _ _ _)
  · have HR := Lib.hid (show madeR k n l = ((k, n, normS k n l), 0) by unfold madeR; rw [if_neg hbig])
    go_wp2_with fail
    refine bodyPost_ret (v := .tuple #[.agg #[.int .i64 k, .int .i64 n, .slice a1 (normS k n l).length cap1], .int .i64 0]) (by simp [results, Tryz.results103, go_sem, c0, c1, c2]) rfl ?_
    rw [HR.out]
    exact ⟨_, rfl, ownsRow_base (ownsRow_set3 HO.out (by simp) _ _ _) (by simp), below_set3 HB.out _ _ _⟩
end Go.Proofs.YtimeilkelnljnaaGreatDoor
