import Derived.Test.YtgnkjcdkfcikeaaGreatDoorCw12
namespace Go.Proofs.YtgnkjcdkfcikeaaGreatDoor
open Go.RowKit
set_option linter.unusedSimpArgs false

/-- the place behind a byte -/
def behP (p : Int × Int × Int) (c : UInt8) : Int × Int × Int := if c = 10 then (p.1 + 1, p.2.1 + 1, 1) else (p.1 + 1, p.2.1, p.2.2 + 1)
abbrev plV (p : Int × Int × Int) : Value := .agg #[.int .i64 p.1, .int .i64 p.2.1, .int .i64 p.2.2]
set_option maxHeartbeats 800000 in
theorem lex_behind (a b d : Int) (c : UInt8) (w : World) (ha : 0 ≤ a ∧ a ≤ 1000000) (hb : 0 ≤ b ∧ b ≤ 1000000) (hd : 0 ≤ d ∧ d ≤ 1000000) :
    Calls Tryz.prog 52 #[plV (a, b, d), .int .u8 (c.toNat : Int)] w fun e w' => e = .returned (plV (behP (a, b, d) c)) ∧ Below w.heap.size w w' := by
  obtain ⟨ha1, ha2⟩ := ha
  obtain ⟨hb1, hb2⟩ := hb
  obtain ⟨hd1, hd2⟩ := hd
  by_cases hc : c = 10
  · subst hc
    go_enter Tryz.func52, Tryz.ntmps52
    go_wp2_with fail
    have hrow := OwnRow.fresh (w.alloc (.cells #[.int .i64 a, .int .i64 b, .int .i64 d] 91)) #[.int .i64 (a + 1), .int .i64 (b + 1), .int .i64 1] 91
    simp only [World.size_alloc] at hrow
    have g0 := hrow.cell (j := 0) rfl
    have g1 := hrow.cell (j := 1) rfl
    have g2 := hrow.cell (j := 2) rfl
    refine bodyPost_ret (v := .agg #[.int .i64 (a + 1), .int .i64 (b + 1), .int .i64 1]) (by simp [results, Tryz.results52, go_sem, g0, g1, g2]) rfl ⟨by rw [show plV (behP (a, b, d) _) = .agg #[.int .i64 (a + 1), .int .i64 (b + 1), .int .i64 1] from by (first | rfl | (unfold behP; rw [if_neg HC.out]))], ((Below.refl w.heap.size w).alloc (Nat.le_refl _) _).alloc (by simp) _⟩
  · have HC := Lib.hid hc
    have h1 : ((c.toNat : Int) == 10) = false := by
      rw [beq_eq_false_iff_ne]
      intro e
      exact hc (UInt8.toNat_inj.1 (by have : (10 : UInt8).toNat = 10 := rfl; omega))
    go_enter Tryz.func52, Tryz.ntmps52
    go_wp2_with fail
    have hrow := OwnRow.fresh (w.alloc (.cells #[.int .i64 a, .int .i64 b, .int .i64 d] 91)) #[.int .i64 (a + 1), .int .i64 b, .int .i64 (d + 1)] 91
    simp only [World.size_alloc] at hrow
    have g0 := hrow.cell (j := 0) rfl
    have g1 := hrow.cell (j := 1) rfl
    have g2 := hrow.cell (j := 2) rfl
    refine bodyPost_ret (v := .agg #[.int .i64 (a + 1), .int .i64 b, .int .i64 (d + 1)]) (by simp [results, Tryz.results52, go_sem, g0, g1, g2]) rfl ⟨by rw [show plV (behP (a, b, d) _) = .agg #[.int .i64 (a + 1), .int .i64 b, .int .i64 (d + 1)] from by (first | rfl | (unfold behP; rw [if_neg HC.out]))], ((Below.refl w.heap.size w).alloc (Nat.le_refl _) _).alloc (by simp) _⟩
end Go.Proofs.YtgnkjcdkfcikeaaGreatDoor
