import Derived.Test.YtgnkjcdkfcikeaaGreatDoorCw4
namespace Go.Proofs.YtgnkjcdkfcikeaaGreatDoor
open Go.RowKit

/-! value.code -/
theorem beqB (s : ByteArray) (l : Bs) : (s.toList == l) = decide (s.data.toList = l) := by
  rw [ByteArray.toList_eq]
  by_cases h : s.data.toList = l
  · rw [decide_eq_true h, beq_iff_eq]; exact h
  · rw [decide_eq_false h, beq_eq_false_iff_ne]; exact h
set_option linter.unusedSimpArgs false in
set_option maxHeartbeats 1600000 in
set_option maxRecDepth 100000 in
theorem val_code (s : ByteArray) (w : World) (hm : s.size ≤ 140737488351232) : Calls Tryz.prog 43 #[.string s] w fun e w' => e = .returned (.bool (codeOk s.data.toList)) ∧ w' = w := by
  go_enter Tryz.func43, Tryz.ntmps43
  go_wp2_with fail
  go_loop [6] (fun i => ∃ k : Nat, k ≤ s.size ∧ i = .int .i64 k ∧ (s.data.toList.take k).all prn = true) (fun i => s.size - (intOf i).toNat)
  case atStart => exact ⟨0, Nat.zero_le _, rfl, rfl⟩
  case round =>
    obtain ⟨k, hk, rfl, hall⟩ := hrel
    have HA := Lib.hid hall
    clear hall
    by_cases hlt : k < s.size
    · have hlt2 : (k : Int) < (s.size : Int) := by omega
      have HT := Lib.hid (all_takeP (p := prn) hlt)
      have HN := Lib.hid (fun h => all_notP (p := prn) hlt h)
      by_cases hp : 33 ≤ (s[k]'hlt).toNat ∧ (s[k]'hlt).toNat ≤ 126
      · have hb1 : decide (((s[k]'hlt).toNat : Int) < 33) = false := by rw [decide_eq_false_iff_not]; omega
        have hb2 : decide ((126 : Int) < ((s[k]'hlt).toNat : Int)) = false := by rw [decide_eq_false_iff_not]; omega
        have HA2 := Lib.hid (show (s.data.toList.take (k + 1)).all prn = true by
          rw [HT.out, HA.out]
          unfold prn
          rw [decide_eq_true hp.1, decide_eq_true hp.2]
          rfl)
        clear hp
        go_wp2_with fail
        go_round
        case rel => exact ⟨k + 1, by omega, by go_num, HA2.out⟩
        case measure => simp [intOf]; omega
      · have HR := Lib.hid (show codeOk s.data.toList = false by
          unfold codeOk
          rw [HN.out (by
            unfold prn
            rw [Bool.and_eq_false_iff, decide_eq_false_iff_not, decide_eq_false_iff_not]
            omega)]
          simp)
        by_cases h1 : (s[k]'hlt).toNat < 33
        · have hb1 : decide (((s[k]'hlt).toNat : Int) < 33) = true := by rw [decide_eq_true_iff]; omega
          go_wp2_with fail
          refine bodyPost_ret (v := .bool false) (by simp [results, Tryz.results43, go_sem]) rfl ?_
          rw [HR.out]
          exact ⟨rfl, rfl⟩
        · have hb1 : decide (((s[k]'hlt).toNat : Int) < 33) = false := by rw [decide_eq_false_iff_not]; omega
          have hb2 : decide ((126 : Int) < ((s[k]'hlt).toNat : Int)) = true := by rw [decide_eq_true_iff]; omega
          go_wp2_with fail
          refine bodyPost_ret (v := .bool false) (by simp [results, Tryz.results43, go_sem]) rfl ?_
          rw [HR.out]
          exact ⟨rfl, rfl⟩
    · obtain rfl : k = s.size := by omega
      have hlt2 : ¬ (s.size : Int) < (s.size : Int) := by omega
      have HAL := Lib.hid (show s.data.toList.all prn = true by
        have := HA.out
        rwa [List.take_of_length_le (by simp)] at this)
      have HSZ := Lib.hid (show s.data.toList.length = s.size by simp)
      clear hlt
      by_cases h0 : s.size = 0
      · obtain rfl : s = ⟨#[]⟩ := by
          have : s.data = #[] := Array.eq_empty_of_size_eq_zero h0
          cases s; simp_all
        have HR := Lib.hid (show codeOk (⟨#[]⟩ : ByteArray).data.toList = false from rfl)
        have hb1 : (⟨#[]⟩ : ByteArray).toList.isEmpty = true := by rw [ByteArray.toList_eq]; rfl
        go_wp2_with fail
        refine bodyPost_ret (v := .bool false) (by simp [results, Tryz.results43, go_sem]) rfl ?_
        rw [HR.out]
        exact ⟨rfl, rfl⟩
      · have hb1 := toList_ne s h0
        by_cases h8 : s.size ≤ 8
        · have hb2 : decide ((s.size : Int) ≤ 8) = true := by rw [decide_eq_true_iff]; omega
          by_cases he : s.data.toList = [36, 101, 110, 100]
          · have hb3 : (s.toList == [36, 101, 110, 100]) = true := by rw [beqB, decide_eq_true he]
            have HR := Lib.hid (show codeOk s.data.toList = false by rw [he]; decide)
            clear he
            go_wp2_with fail
            refine bodyPost_ret (v := .bool false) (by simp [results, Tryz.results43, go_sem]) rfl ?_
            rw [HR.out]
            exact ⟨rfl, rfl⟩
          · have hb3 : (s.toList == [36, 101, 110, 100]) = false := by rw [beqB, decide_eq_false he]
            have HR := Lib.hid (show codeOk s.data.toList = true by
              unfold codeOk
              rw [HAL.out, decide_eq_false he, decide_eq_true (show s.data.toList.length ≤ 8 by have := HSZ.out; omega), decide_eq_false (fun e => by have h2 := HSZ.out; rw [e] at h2; simp at h2; omega)]
              rfl)
            clear he
            go_wp2_with fail
            refine bodyPost_ret (v := .bool true) (by simp [results, Tryz.results43, go_sem]) rfl ?_
            rw [HR.out]
            exact ⟨rfl, rfl⟩
        · have hb2 : decide ((s.size : Int) ≤ 8) = false := by rw [decide_eq_false_iff_not]; omega
          have HR := Lib.hid (show codeOk s.data.toList = false by
            unfold codeOk
            rw [decide_eq_false (show ¬ s.data.toList.length ≤ 8 by have := HSZ.out; omega)]
            simp)
          go_wp2_with fail
          refine bodyPost_ret (v := .bool false) (by simp [results, Tryz.results43, go_sem]) rfl ?_
          rw [HR.out]
          exact ⟨rfl, rfl⟩
end Go.Proofs.YtgnkjcdkfcikeaaGreatDoor
