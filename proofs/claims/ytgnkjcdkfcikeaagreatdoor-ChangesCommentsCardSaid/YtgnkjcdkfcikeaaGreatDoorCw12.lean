import Derived.Test.YtgnkjcdkfcikeaaGreatDoorCw11
namespace Go.Proofs.YtgnkjcdkfcikeaaGreatDoor
open Go.RowKit
set_option linter.unusedSimpArgs false

theorem isW_all : ∀ n : Fin 256, isW (UInt8.ofNat n.val) = (((n.val : Int) == 32) || (decide ((9 : Int) ≤ (n.val : Int)) && decide ((n.val : Int) ≤ 13))) := by decide +kernel
theorem isW_int (c : UInt8) : isW c = (((c.toNat : Int) == 32) || (decide ((9 : Int) ≤ (c.toNat : Int)) && decide ((c.toNat : Int) ≤ 13))) := by
  have := isW_all ⟨c.toNat, c.toNat_lt⟩
  simpa using this
set_option maxHeartbeats 400000 in
theorem lex_white (c : UInt8) (w : World) : Calls Tryz.prog 36 #[.int .u8 (c.toNat : Int)] w fun e w' => e = .returned (.bool (isW c)) ∧ w' = w := by
  have HW := Lib.hid (isW_int c)
  cases h1 : ((c.toNat : Int) == 32)
  all_goals cases h2 : decide ((9 : Int) ≤ (c.toNat : Int))
  all_goals cases h3 : decide ((c.toNat : Int) ≤ 13)
  all_goals
    have HV := Lib.hid (HW.out.trans (by rw [h1, h2, h3]))
    go_enter Tryz.func36, Tryz.ntmps36
    go_wp2_with fail
    go_ret
    exact ⟨ret_bool (by rw [HV.out]; rfl), rfl⟩
end Go.Proofs.YtgnkjcdkfcikeaaGreatDoor
