import Derived.Test.YtlbcfmhpkcpmaaaGreatDoorProg
import Derived.Test.YtlbcfmhpkcpmaaaGreatDoorMem
namespace Go.Proofs.YtlbcfmhpkcpmaaaGreatDoor
open Go.RowKit

def codeOf (c : UInt8) : Int := if c = 48 then 0 else if c = 49 then 1 else if c = 120 then 2 else if c = 122 then 3 else -1

theorem u8_ne {a b : UInt8} (h : a ≠ b) : ((a.toNat : Int) == (b.toNat : Int)) = false := by
  rw [beq_eq_false_iff_ne]; intro e; apply h; apply UInt8.toNat_inj.1; omega

set_option maxHeartbeats 400000 in
theorem logic_Code (c : UInt8) (w : World) :
    Calls Tryz.prog 124 #[.int .u8 c.toNat] w fun e w' => e = .returned (.int .i64 (codeOf c)) ∧ w = w' := by
  by_cases h0 : c = 48
  · subst h0
    go_enter Tryz.func124, Tryz.ntmps124
    go_wp2
    refine wp_loop_rounds 5 ?_
    rw [rounds_succ]
    go_wp2
    go_ret
    exact ⟨rfl, rfl⟩
  by_cases h1 : c = 49
  · subst h1
    go_enter Tryz.func124, Tryz.ntmps124
    go_wp2
    refine wp_loop_rounds 5 ?_
    iterate 2 (rw [rounds_succ]; go_wp2)
    go_ret
    exact ⟨rfl, rfl⟩
  by_cases h2 : c = 120
  · subst h2
    go_enter Tryz.func124, Tryz.ntmps124
    go_wp2
    refine wp_loop_rounds 5 ?_
    iterate 3 (rw [rounds_succ]; go_wp2)
    go_ret
    exact ⟨rfl, rfl⟩
  by_cases h3 : c = 122
  · subst h3
    go_enter Tryz.func124, Tryz.ntmps124
    go_wp2
    refine wp_loop_rounds 5 ?_
    iterate 4 (rw [rounds_succ]; go_wp2)
    go_ret
    exact ⟨rfl, rfl⟩
  have g0 := u8_ne (a := (⟨#[48, 49, 120, 122]⟩ : ByteArray)[0]) (b := c) (fun e => h0 e.symm)
  have g1 := u8_ne (a := (⟨#[48, 49, 120, 122]⟩ : ByteArray)[1]) (b := c) (fun e => h1 e.symm)
  have g2 := u8_ne (a := (⟨#[48, 49, 120, 122]⟩ : ByteArray)[2]) (b := c) (fun e => h2 e.symm)
  have g3 := u8_ne (a := (⟨#[48, 49, 120, 122]⟩ : ByteArray)[3]) (b := c) (fun e => h3 e.symm)
  have e : codeOf c = -1 := by simp [codeOf, h0, h1, h2, h3]
  have E := Lib.hid e
  clear e
  go_enter Tryz.func124, Tryz.ntmps124
  go_wp2
  refine wp_loop_rounds 5 ?_
  iterate 5 (rw [rounds_succ]; go_wp2)
  go_ret
  exact ⟨ret_int' E.out.symm, rfl⟩
end Go.Proofs.YtlbcfmhpkcpmaaaGreatDoor
