import Derived.Test.YtlbcfmhpkcpmaaaGreatDoorDec6
import Derived.Test.YtlbcfmhpkcpmaaaGreatDoorRefB2
namespace Go.Proofs.YtlbcfmhpkcpmaaaGreatDoor
open Go.RowKit

set_option maxHeartbeats 400000 in
theorem ref_digit (c : UInt8) (w : World) :
    Calls Tryz.prog 159 #[.int .u8 c.toNat] w fun e w' => e = .returned (.bool (isDig c)) ∧ w = w' := by
  by_cases h0 : 48 ≤ c.toNat
  · by_cases h1 : c.toNat ≤ 57
    · have E := Lib.hid (show isDig c = true by simp [isDig, h0, h1])
      have g0 : (48 : Int) ≤ (c.toNat : Int) := by omega
      have g1 : (c.toNat : Int) ≤ 57 := by omega
      clear h0 h1
      go_enter Tryz.func159, Tryz.ntmps159
      go_wp2
      go_ret
      exact ⟨ret_bool E.out.symm, rfl⟩
    · have E := Lib.hid (show isDig c = false by simp [isDig]; omega)
      have g0 : (48 : Int) ≤ (c.toNat : Int) := by omega
      have g1 : 57 < (c.toNat : Int) := by omega
      clear h0 h1
      go_enter Tryz.func159, Tryz.ntmps159
      go_wp2
      go_ret
      exact ⟨ret_bool (by rw [E.out]; simp; omega), rfl⟩
  · have E := Lib.hid (show isDig c = false by simp [isDig]; omega)
    have g0 : (c.toNat : Int) < 48 := by omega
    clear h0
    go_enter Tryz.func159, Tryz.ntmps159
    go_wp2
    go_ret
    exact ⟨ret_bool E.out.symm, rfl⟩

set_option maxHeartbeats 400000 in
theorem ref_digits (s : ByteArray) (k : Nat) (w : World) (hk : k ≤ s.size) (hs : s.size ≤ maxLen) :
    Calls Tryz.prog 141 #[.string s, .int .i64 k] w fun e w' => e = .returned (.int .i64 (digRun s k)) ∧ w = w' := by
  unfold maxLen at hs
  have hle := digRun_le s k hk
  go_enter Tryz.func141, Tryz.ntmps141
  go_wp2_with fail
  go_loopw [5] (fun i wr => ∃ j : Nat, j ≤ digRun s k ∧ i = .int .i64 j ∧ wr = w) (fun i _ => s.size - (intOf i).toNat)
  case atStart => exact ⟨0, Nat.zero_le _, rfl, rfl⟩
  case round =>
    obtain ⟨j, hj, rfl, rfl⟩ := hrel
    have hw0 : IntKind.i64.wrap ((k : Int) + (j : Int)) = (k : Int) + (j : Int) := IntWalk.i64_in _ (by omega)
    by_cases hlt : j < digRun s k
    · have hkj : k + j < s.size := by omega
      have H := Lib.hid (digRun_at s k j hlt hkj)
      have g1 : (k : Int) + (j : Int) < (s.size : Int) := by omega
      have g0 : 0 ≤ (k : Int) + (j : Int) := by omega
      have g2 : ((k : Int) + (j : Int)).toNat = k + j := by omega
      go_wp2_with fail
      refine (ref_digit _ _).mono ?_
      rintro e w' ⟨rfl, rfl⟩
      rw [H.out]
      go_wp2_with fail
      go_roundw
      case rel => exact ⟨j + 1, by omega, by go_num, trivial⟩
      case measure => simp [intOf]; omega
    · obtain rfl : j = digRun s k := by omega
      by_cases hkj : k + digRun s k < s.size
      · have H := Lib.hid (digRun_end s k hkj)
        have g1 : (k : Int) + (digRun s k : Int) < (s.size : Int) := by omega
        have g0 : 0 ≤ (k : Int) + (digRun s k : Int) := by omega
        have g2 : ((k : Int) + (digRun s k : Int)).toNat = k + digRun s k := by omega
        go_wp2_with fail
        refine (ref_digit _ _).mono ?_
        rintro e w' ⟨rfl, rfl⟩
        rw [H.out]
        go_wp2_with fail
        go_ret
        exact ⟨rfl, rfl⟩
      · have g1 : (s.size : Int) ≤ (k : Int) + (digRun s k : Int) := by omega
        go_wp2_with fail
        go_ret
        exact ⟨rfl, rfl⟩
end Go.Proofs.YtlbcfmhpkcpmaaaGreatDoor
