import Derived.Test.YtlbcfmhpkcpmaaaGreatDoorLogic
namespace Go.Proofs.YtlbcfmhpkcpmaaaGreatDoor
open Go.RowKit

/-- how many of the first k bytes have the code j -/
def cntC (j : Int) (l : List UInt8) : Nat := (l.filter fun c => codeOf c == j).length
theorem cntC_le (j : Int) (l : List UInt8) : cntC j l ≤ l.length := List.length_filter_le _ _
theorem cntC_snoc (j : Int) (l : List UInt8) (c : UInt8) : cntC j (l ++ [c]) = cntC j l + if codeOf c = j then 1 else 0 := by
  unfold cntC
  by_cases h : codeOf c = j <;> simp [List.filter_append, h]
theorem take_snoc (s : ByteArray) (k : Nat) (h : k < s.size) : s.data.toList.take (k + 1) = s.data.toList.take k ++ [s[k]] := by
  rw [List.take_succ_eq_append_getElem (by simpa using h)]; rfl
theorem codeOf_cases (c : UInt8) : codeOf c = 0 ∨ codeOf c = 1 ∨ codeOf c = 2 ∨ codeOf c = 3 ∨ codeOf c = -1 := by
  unfold codeOf; repeat' split
  all_goals simp

def cnt4 (l : List UInt8) : Array Value := #[.int .i64 (cntC 0 l), .int .i64 (cntC 1 l), .int .i64 (cntC 2 l), .int .i64 (cntC 3 l)]

theorem cnt4_step (s : ByteArray) (k : Nat) (h : k < s.size) {j : Int} (hj : codeOf s[k] = j) :
    cntC 0 (s.data.toList.take (k+1)) = cntC 0 (s.data.toList.take k) + (if j = 0 then 1 else 0) ∧
    cntC 1 (s.data.toList.take (k+1)) = cntC 1 (s.data.toList.take k) + (if j = 1 then 1 else 0) ∧
    cntC 2 (s.data.toList.take (k+1)) = cntC 2 (s.data.toList.take k) + (if j = 2 then 1 else 0) ∧
    cntC 3 (s.data.toList.take (k+1)) = cntC 3 (s.data.toList.take k) + (if j = 3 then 1 else 0) := by
  subst hj
  rw [take_snoc s k h]
  exact ⟨cntC_snoc _ _ _, cntC_snoc _ _ _, cntC_snoc _ _ _, cntC_snoc _ _ _⟩

set_option maxHeartbeats 400000 in
theorem logic_Count (s : ByteArray) (w : World) (hs : s.size ≤ maxLen) :
    Calls Tryz.prog 89 #[.string s] w fun e w' => e = .returned (.agg (cnt4 s.data.toList)) ∧ Below w.heap.size w w' := by
  unfold maxLen at hs
  go_enter Tryz.func89, Tryz.ntmps89
  go_wp2
  go_loopw [4, 5, 8] (fun _ _ i wr => ∃ k : Nat, k ≤ s.size ∧ i = .int .i64 k ∧
      wr = (w.alloc (.cells #[.int .i64 0, .int .i64 0, .int .i64 0, .int .i64 0] 102)).alloc (.cells #[.int .i64 (cntC 0 (s.data.toList.take k)), .int .i64 (cntC 1 (s.data.toList.take k)), .int .i64 (cntC 2 (s.data.toList.take k)), .int .i64 (cntC 3 (s.data.toList.take k))] 102))
    (fun _ _ i _ => s.size - (intOf i).toNat)
  case atStart => exact ⟨0, Nat.zero_le _, rfl, rfl⟩
  case round =>
    obtain ⟨k, hk, rfl, rfl⟩ := hrel
    by_cases hlt : k < s.size
    · rcases codeOf_cases s[k] with h | h | h | h | h
      all_goals
        have hst := cnt4_step s k hlt h
        have HS := Lib.hid hst
        have H := Lib.hid h
        clear h hst
        have l0 := cntC_le 0 (s.data.toList.take k)
        have l1 := cntC_le 1 (s.data.toList.take k)
        have l2 := cntC_le 2 (s.data.toList.take k)
        have l3 := cntC_le 3 (s.data.toList.take k)
        have hl : (s.data.toList.take k).length ≤ k := List.length_take_le _ _
        go_wp2_with fail
        refine (logic_Code _ _).mono ?_
        rintro e w' ⟨rfl, rfl⟩
        rw [H.out]
        go_wp2_with fail
        go_roundw
        case rel => exact ⟨k + 1, by omega, by go_num, by rw [HS.out.1, HS.out.2.1, HS.out.2.2.1, HS.out.2.2.2]; rfl⟩
        case measure => simp [intOf]; omega
    · obtain rfl : k = s.size := by omega
      have e : s.data.toList.take s.size = s.data.toList := List.take_of_length_le (by simp)
      rw [e]
      go_wp2
      exact bodyPost_ret (v := .agg (cnt4 s.data.toList)) (by simp [results, Tryz.results89, go_sem, cnt4]) rfl ⟨rfl, ((Below.refl _ _).alloc (Nat.le_refl _) _).alloc (by simp) _⟩
end Go.Proofs.YtlbcfmhpkcpmaaaGreatDoor
