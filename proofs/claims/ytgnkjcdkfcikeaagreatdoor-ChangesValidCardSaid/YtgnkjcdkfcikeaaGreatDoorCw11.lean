import Derived.Test.YtgnkjcdkfcikeaaGreatDoorCw10
namespace Go.Proofs.YtgnkjcdkfcikeaaGreatDoor
open Go.RowKit
set_option linter.unusedSimpArgs false

set_option maxHeartbeats 400000 in
set_option maxRecDepth 100000 in
theorem ref_ValidType (k n : Int) (w : World) : Calls Tryz.prog 22 #[.int .i64 k, .int .i64 n] w fun e w' => e = .returned (.bool (vt k n)) ∧ w = w' := by
  by_cases hk : k = 0
  · subst hk
    by_cases h1 : 1 ≤ n
    · by_cases h2 : n ≤ 128
      · have HV := Lib.hid (show vt 0 n = true by simp [vt, h1, h2])
        go_enter Tryz.func22, Tryz.ntmps22
        go_wp2_with fail
        go_ret
        exact ⟨ret_bool HV.out.symm, rfl⟩
      · have HV := Lib.hid (show vt 0 n = false by simp [vt, h2])
        go_enter Tryz.func22, Tryz.ntmps22
        go_wp2_with fail
        go_ret
        exact ⟨ret_bool HV.out.symm, rfl⟩
    · have HV := Lib.hid (show vt 0 n = false by simp [vt, h1])
      have h1' : n < 1 := by omega
      clear h1
      go_enter Tryz.func22, Tryz.ntmps22
      go_wp2_with fail
      go_ret
      exact ⟨ret_bool HV.out.symm, rfl⟩
  · have hkb : (k == 0) = false := by simpa using hk
    by_cases h1 : 0 < k
    · by_cases h2 : k ≤ 3
      · by_cases h3 : n = 0
        · subst h3
          have HV := Lib.hid (show vt k 0 = true by unfold vt; simp; omega)
          clear hk
          go_enter Tryz.func22, Tryz.ntmps22
          go_wp2_with fail
          go_ret
          exact ⟨ret_bool HV.out.symm, rfl⟩
        · have HV := Lib.hid (show vt k n = false by simp [vt, h3, hk])
          have h3b : (n == 0) = false := by simpa using h3
          clear hk h3
          go_enter Tryz.func22, Tryz.ntmps22
          go_wp2_with fail
          go_ret
          exact ⟨ret_bool HV.out.symm, rfl⟩
      · have HV := Lib.hid (show vt k n = false by unfold vt; simp; omega)
        have h2' : 3 < k := by omega
        clear hk h2
        go_enter Tryz.func22, Tryz.ntmps22
        go_wp2_with fail
        go_ret
        exact ⟨ret_bool HV.out.symm, rfl⟩
    · have HV := Lib.hid (show vt k n = false by unfold vt; simp; omega)
      have h1' : k ≤ 0 := by omega
      clear hk h1
      go_enter Tryz.func22, Tryz.ntmps22
      go_wp2_with fail
      go_ret
      exact ⟨ret_bool HV.out.symm, rfl⟩

set_option maxHeartbeats 400000 in
theorem ref_Printable (c : UInt8) (w : World) : Calls Tryz.prog 39 #[.int .u8 (c.toNat : Int)] w fun e w' => e = .returned (.bool (prn c)) ∧ w' = w := by
  by_cases h1 : 33 ≤ c.toNat
  · have hb1 : decide ((33 : Int) ≤ (c.toNat : Int)) = true := by rw [decide_eq_true_iff]; omega
    by_cases h2 : c.toNat ≤ 126
    · have hb2 : decide ((c.toNat : Int) ≤ 126) = true := by rw [decide_eq_true_iff]; omega
      have HP := Lib.hid (show prn c = true by unfold prn; rw [decide_eq_true h1, decide_eq_true h2]; rfl)
      clear h1 h2
      go_enter Tryz.func39, Tryz.ntmps39
      go_wp2_with fail
      go_ret
      exact ⟨ret_bool (show true = prn c from HP.out.symm), rfl⟩
    · have hb2 : decide ((c.toNat : Int) ≤ 126) = false := by rw [decide_eq_false_iff_not]; omega
      have HP := Lib.hid (show prn c = false by unfold prn; rw [decide_eq_false h2]; simp)
      clear h1 h2
      go_enter Tryz.func39, Tryz.ntmps39
      go_wp2_with fail
      go_ret
      exact ⟨ret_bool (show false = prn c from HP.out.symm), rfl⟩
  · have hb1 : decide ((33 : Int) ≤ (c.toNat : Int)) = false := by rw [decide_eq_false_iff_not]; omega
    have HP := Lib.hid (show prn c = false by unfold prn; rw [decide_eq_false h1]; simp)
    clear h1
    go_enter Tryz.func39, Tryz.ntmps39
    go_wp2_with fail
    go_ret
    exact ⟨ret_bool (show false = prn c from HP.out.symm), rfl⟩

set_option maxHeartbeats 1600000 in
set_option maxRecDepth 100000 in
theorem ref_ValidCode (s : ByteArray) (w : World) (hm : s.size ≤ 140737488351232) : Calls Tryz.prog 21 #[.string s] w fun e w' => e = .returned (.bool (codeOk s.data.toList)) ∧ w' = w := by
  go_enter Tryz.func21, Tryz.ntmps21
  go_wp2_with fail
  go_loop [3] (fun i => ∃ k : Nat, k ≤ s.size ∧ i = .int .i64 k ∧ (s.data.toList.take k).all prn = true) (fun i => s.size - (intOf i).toNat)
  case atStart => exact ⟨0, Nat.zero_le _, rfl, rfl⟩
  case round =>
    obtain ⟨k, hk, rfl, hall⟩ := hrel
    have HA := Lib.hid hall
    clear hall
    by_cases hlt : k < s.size
    · have hlt2 : (k : Int) < (s.size : Int) := by omega
      have HT := Lib.hid (all_takeP (p := prn) hlt)
      have HN := Lib.hid (fun h => all_notP (p := prn) hlt h)
      have HPR := Lib.hid (fun W => ref_Printable (s[k]'hlt) W)
      go_wp2_with fail
      refine (HPR.out _).mono ?_
      rintro e w1 ⟨rfl, rfl⟩
      cases hp : prn (s[k]'hlt)
      · have HR := Lib.hid (show codeOk s.data.toList = false by
          unfold codeOk
          rw [HN.out hp]
          simp)
        clear hp
        go_wp2_with fail
        refine bodyPost_ret (v := .bool false) (by simp [results, Tryz.results21, go_sem]) rfl ?_
        rw [HR.out]
        exact ⟨rfl, rfl⟩
      · have HA2 := Lib.hid (show (s.data.toList.take (k + 1)).all prn = true by
          rw [HT.out, HA.out, hp]
          rfl)
        clear hp
        go_wp2_with fail
        go_round
        case rel => exact ⟨k + 1, by omega, by go_num, HA2.out⟩
        case measure => simp [intOf]; omega
    · obtain rfl : k = s.size := by omega
      have hlt2 : ¬ (s.size : Int) < (s.size : Int) := by omega
      have HAL := Lib.hid (show s.data.toList.all prn = true by
        have := HA.out
        rwa [List.take_of_length_le (by simp)] at this)
      have HSZ := Lib.hid (show s.data.toList.length = s.size by simp)
      clear hlt
      by_cases h0 : s.size = 0
      · obtain rfl : s = ⟨#[]⟩ := by
          have : s.data = #[] := Array.eq_empty_of_size_eq_zero h0
          cases s; simp_all
        have HR := Lib.hid (show codeOk (⟨#[]⟩ : ByteArray).data.toList = false from rfl)
        go_wp2_with fail
        refine bodyPost_ret (v := .bool false) (by simp [results, Tryz.results21, go_sem]) rfl ?_
        rw [HR.out]
        exact ⟨rfl, rfl⟩
      · have hb1 : decide ((1 : Int) ≤ (s.size : Int)) = true := by rw [decide_eq_true_iff]; omega
        by_cases h8 : s.size ≤ 8
        · have hb2 : decide ((s.size : Int) ≤ 8) = true := by rw [decide_eq_true_iff]; omega
          by_cases he : s.data.toList = [36, 101, 110, 100]
          · have hb3 : (s.toList == [36, 101, 110, 100]) = true := by rw [beqB, decide_eq_true he]
            have HR := Lib.hid (show codeOk s.data.toList = false by rw [he]; decide)
            clear he
            go_wp2_with fail
            refine bodyPost_ret (v := .bool false) (by simp [results, Tryz.results21, go_sem]) rfl ?_
            rw [HR.out]
            exact ⟨rfl, rfl⟩
          · have hb3 : (s.toList == [36, 101, 110, 100]) = false := by rw [beqB, decide_eq_false he]
            have HR := Lib.hid (show codeOk s.data.toList = true by
              unfold codeOk
              rw [HAL.out, decide_eq_false he, decide_eq_true (show s.data.toList.length ≤ 8 by have := HSZ.out; omega), decide_eq_false (fun e => by have h2 := HSZ.out; rw [e] at h2; simp at h2; omega)]
              rfl)
            clear he
            go_wp2_with fail
            refine bodyPost_ret (v := .bool true) (by simp [results, Tryz.results21, go_sem]) rfl ?_
            rw [HR.out]
            exact ⟨rfl, rfl⟩
        · have hb2 : decide ((s.size : Int) ≤ 8) = false := by rw [decide_eq_false_iff_not]; omega
          have HR := Lib.hid (show codeOk s.data.toList = false by
            unfold codeOk
            rw [decide_eq_false (show ¬ s.data.toList.length ≤ 8 by have := HSZ.out; omega)]
            simp)
          go_wp2_with fail
          refine bodyPost_ret (v := .bool false) (by simp [results, Tryz.results21, go_sem]) rfl ?_
          rw [HR.out]
          exact ⟨rfl, rfl⟩
end Go.Proofs.YtgnkjcdkfcikeaaGreatDoor
