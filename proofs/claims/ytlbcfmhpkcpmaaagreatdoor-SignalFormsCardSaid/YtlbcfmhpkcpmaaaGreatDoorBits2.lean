import Derived.Test.YtlbcfmhpkcpmaaaGreatDoorBits
namespace Go.Proofs.YtlbcfmhpkcpmaaaGreatDoor
open Go.RowKit

set_option maxHeartbeats 400000 in
theorem logic_Valid (c : UInt8) (w : World) :
    Calls Tryz.prog 132 #[.int .u8 c.toNat] w fun e w' => e = .returned (.bool (codeOf c != -1)) ∧ w = w' := by
  go_enter Tryz.func132, Tryz.ntmps132
  go_wp2_with fail
  refine (logic_Code _ _).mono ?_
  rintro e w' ⟨rfl, rfl⟩
  go_wp2
  go_ret
  refine ⟨ret_bool ?_, rfl⟩
  rcases codeOf_cases c with h | h | h | h | h <;> simp [h]

def kn (c : UInt8) : Int := if codeOf c = -1 then 2 else codeOf c
set_option maxHeartbeats 400000 in
theorem logic_known (c : UInt8) (w : World) :
    Calls Tryz.prog 90 #[.int .u8 c.toNat] w fun e w' => e = .returned (.int .i64 (kn c)) ∧ w = w' := by
  go_enter Tryz.func90, Tryz.ntmps90
  go_wp2_with fail
  refine (logic_Code _ _).mono ?_
  rintro e w' ⟨rfl, rfl⟩
  go_wp2
  all_goals
    go_ret
    refine ⟨ret_int' ?_, rfl⟩
    unfold kn
    rcases codeOf_cases c with h | h | h | h | h <;> simp_all

def invB (c : UInt8) : UInt8 := if c = 48 then 49 else if c = 49 then 48 else if c = 122 then 122 else 120
theorem inv_kn (c : UInt8) : (kn c = 0 ∧ invB c = 49) ∨ (kn c = 1 ∧ invB c = 48) ∨ (kn c = 2 ∧ invB c = 120) ∨ (kn c = 3 ∧ invB c = 122) := by
  unfold kn invB codeOf
  by_cases h0 : c = 48
  · simp [h0]
  by_cases h1 : c = 49
  · simp [h1]
  by_cases h2 : c = 120
  · simp [h2]
  by_cases h3 : c = 122
  · simp [h3]
  simp [h0, h1, h2, h3]

set_option maxHeartbeats 400000 in
set_option maxRecDepth 100000 in
theorem logic_Inverse (c : UInt8) (w : World) :
    Calls Tryz.prog 73 #[.int .u8 c.toNat] w fun e w' => e = .returned (.int .u8 (invB c).toNat) ∧ w = w' := by
  rcases inv_kn c with ⟨h, h'⟩ | ⟨h, h'⟩ | ⟨h, h'⟩ | ⟨h, h'⟩
  all_goals
    have H := Lib.hid h
    have H' := Lib.hid h'
    clear h h'
    have i0 : ∀ w, (Instr.index 104 (.agg #[.int .u8 49, .int .u8 48, .int .u8 120, .int .u8 122]) (.int .i64 0)).run Tryz.prog w = .ok (.int .u8 49) w := fun _ => by kernel_rfl
    have i1 : ∀ w, (Instr.index 104 (.agg #[.int .u8 49, .int .u8 48, .int .u8 120, .int .u8 122]) (.int .i64 1)).run Tryz.prog w = .ok (.int .u8 48) w := fun _ => by kernel_rfl
    have i2 : ∀ w, (Instr.index 104 (.agg #[.int .u8 49, .int .u8 48, .int .u8 120, .int .u8 122]) (.int .i64 2)).run Tryz.prog w = .ok (.int .u8 120) w := fun _ => by kernel_rfl
    have i3 : ∀ w, (Instr.index 104 (.agg #[.int .u8 49, .int .u8 48, .int .u8 120, .int .u8 122]) (.int .i64 3)).run Tryz.prog w = .ok (.int .u8 122) w := fun _ => by kernel_rfl
    go_enter Tryz.func73, Tryz.ntmps73
    go_wp2_with fail
    refine (logic_known _ _).mono ?_
    rintro e w' ⟨rfl, rfl⟩
    rw [H.out]
    go_wp2_with fail
    go_ret
    exact ⟨by rw [H'.out]; rfl, rfl⟩

set_option maxHeartbeats 400000 in
theorem bits_Valid (n : Int) (s : ByteArray) (w : World) (hs : s.size ≤ maxLen) :
    Calls Tryz.prog 106 #[.int .i64 n, .string s] w fun e w' => e = .returned (.bool (bvIs s && decide ((s.size : Int) = n))) ∧ Below w.heap.size w w' := by
  unfold maxLen at hs
  go_enter Tryz.func106, Tryz.ntmps106
  go_wp2_with fail
  refine (bits_is _ _ hs).mono ?_
  rintro e w1 ⟨rfl, hb⟩
  cases h : bvIs s
  all_goals
    go_wp2
    go_ret
    refine ⟨ret_bool ?_, hb⟩
  · simp [h]
  · rw [Bool.eq_iff_iff]; simp [h]

end Go.Proofs.YtlbcfmhpkcpmaaaGreatDoor
