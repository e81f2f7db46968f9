import Derived.Test.YtlbcfmhpkcpmaaaGreatDoorLogic2
namespace Go.Proofs.YtlbcfmhpkcpmaaaGreatDoor
open Go.RowKit

theorem cntC_sum (l : List UInt8) : (cntC 0 l + cntC 1 l + cntC 2 l + cntC 3 l = l.length) ↔ l.all (fun c => codeOf c != -1) = true := by
  have key : cntC 0 l + cntC 1 l + cntC 2 l + cntC 3 l = (l.filter fun c => codeOf c != -1).length := by
    induction l with
    | nil => rfl
    | cons c l ih =>
      unfold cntC at *
      rcases codeOf_cases c with h | h | h | h | h <;> simp [h] <;> omega
  rw [key]
  constructor
  · intro h
    rw [List.all_eq_true]
    intro c hc
    by_cases hh : (codeOf c != -1) = true
    · exact hh
    · exfalso
      have := List.length_filter_lt_length_iff_exists (p := fun c => codeOf c != -1) (l := l) |>.2 ⟨c, hc, hh⟩
      omega
  · intro h
    rw [List.filter_eq_self.2 (by simpa using h)]

theorem toList_ne (s : ByteArray) (h : s.size ≠ 0) : s.toList.isEmpty = false := by
  rw [ByteArray.toList_eq]
  cases hl : s.data.toList with
  | nil => exact absurd (by have := congrArg List.length hl; simpa using this) h
  | cons => rfl

/-- a value of some width -/
def bvIs (s : ByteArray) : Bool := decide (1 ≤ s.size) && decide (s.size ≤ 128) && s.data.toList.all (fun c => codeOf c != -1)

set_option maxHeartbeats 400000 in
theorem bits_is (s : ByteArray) (w : World) (hs : s.size ≤ maxLen) :
    Calls Tryz.prog 71 #[.string s] w fun e w' => e = .returned (.bool (bvIs s)) ∧ Below w.heap.size w w' := by
  unfold maxLen at hs
  by_cases h0 : s.size = 0
  · obtain rfl : s = ⟨#[]⟩ := by
      obtain ⟨a⟩ := s
      have : a = #[] := Array.eq_empty_of_size_eq_zero h0
      rw [this]
    go_enter Tryz.func71, Tryz.ntmps71
    go_wp2
    go_ret
    exact ⟨ret_bool (by rfl), Below.refl _ _⟩
  have hE := toList_ne s h0
  by_cases h1 : 128 < s.size
  · have e : bvIs s = false := by unfold bvIs; simp; omega
    have E := Lib.hid e
    clear e
    go_enter Tryz.func71, Tryz.ntmps71
    go_wp2
    go_ret
    exact ⟨ret_bool E.out.symm, Below.refl _ _⟩
  have h2 : s.size ≤ 128 := by omega
  clear h1
  have hc : decide (cntC 0 s.data.toList + cntC 1 s.data.toList + cntC 2 s.data.toList + cntC 3 s.data.toList = s.size) = bvIs s := by
    have h3 := cntC_sum s.data.toList
    rw [show s.data.toList.length = s.size by simp] at h3
    have h4 : 1 ≤ s.size := by omega
    unfold bvIs
    rw [decide_eq_true h4, decide_eq_true h2, Bool.true_and, Bool.true_and, Bool.eq_iff_iff, decide_eq_true_iff]
    exact h3
  have HC := Lib.hid hc
  clear hc
  have l0 := cntC_le 0 s.data.toList
  have l1 := cntC_le 1 s.data.toList
  have l2 := cntC_le 2 s.data.toList
  have l3 := cntC_le 3 s.data.toList
  have hl : s.data.toList.length ≤ s.size := by simp
  go_enter Tryz.func71, Tryz.ntmps71
  go_wp2_with fail
  refine (logic_Count _ _ (by unfold maxLen; omega)).mono ?_
  rintro e w1 ⟨rfl, hb⟩
  unfold cnt4
  go_wp2_with fail
  go_ret
  refine ⟨ret_bool ?_, ?_⟩
  · rw [← HC.out, Bool.eq_iff_iff, beq_iff_eq, decide_eq_true_iff]; omega
  · exact hb.alloc hb.size _
end Go.Proofs.YtlbcfmhpkcpmaaaGreatDoor
