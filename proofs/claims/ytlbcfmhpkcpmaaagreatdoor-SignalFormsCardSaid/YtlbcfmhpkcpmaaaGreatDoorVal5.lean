import Derived.Test.YtlbcfmhpkcpmaaaGreatDoorVal4
namespace Go.Proofs.YtlbcfmhpkcpmaaaGreatDoor
open Go.RowKit

set_option maxHeartbeats 400000 in
theorem kinds1 (n : Int) (w : World) : Calls Tryz.prog 107 #[.int .i64 n] w fun e w' => e = .returned (.string (allR n 120)) ∧ Below w.heap.size w w' := by
  go_enter Tryz.func107, Tryz.ntmps107
  go_wp2_with fail
  refine (bits_All n 120 _).mono ?_
  rintro e w1 ⟨rfl, hb⟩
  go_wp2_with fail
  go_ret
  exact ⟨rfl, hb⟩
set_option maxHeartbeats 400000 in
theorem kinds2 (n : Int) (s : ByteArray) (w : World) (hg : Glob w) (hs : s.size ≤ maxLen) : Calls Tryz.prog 111 #[.int .i64 n, .string s] w fun e w' => e = .returned (.bool (decOk s)) ∧ Below w.heap.size w w' := by
  go_enter Tryz.func111, Tryz.ntmps111
  go_wp2_with fail
  refine (dec_Valid s _ hg hs).mono ?_
  rintro e w1 ⟨rfl, hb⟩
  go_wp2_with fail
  go_ret
  exact ⟨rfl, hb⟩
set_option maxHeartbeats 400000 in
theorem kinds5 (n : Int) (s : ByteArray) (w : World) (hs : s.size ≤ maxLen) : Calls Tryz.prog 117 #[.int .i64 n, .string s] w fun e w' => e = .returned (.bool (decide (s.size ≤ 64))) ∧ Below w.heap.size w w' := by
  unfold maxLen at hs
  go_enter Tryz.func117, Tryz.ntmps117
  go_wp2_with fail
  go_ret
  exact ⟨ret_bool (by rw [Bool.eq_iff_iff]; simp; omega), Below.refl _ _⟩
set_option maxHeartbeats 400000 in
theorem kinds7 (n : Int) (s : ByteArray) (w : World) : Calls Tryz.prog 121 #[.int .i64 n, .string s] w fun e w' => e = .returned (.bool (nilB s)) ∧ Below w.heap.size w w' := by
  by_cases h : s.size = 0
  · obtain rfl : s = ⟨#[]⟩ := by
      obtain ⟨a⟩ := s
      have : a = #[] := Array.eq_empty_of_size_eq_zero h
      rw [this]
    go_enter Tryz.func121, Tryz.ntmps121
    go_wp2_with fail
    go_ret
    exact ⟨rfl, Below.refl _ _⟩
  · have hE := toList_ne s h
    have H := Lib.hid h
    clear h
    go_enter Tryz.func121, Tryz.ntmps121
    go_wp2_with fail
    go_ret
    exact ⟨ret_bool (by unfold nilB; rw [eq_comm, decide_eq_false_iff_not]; exact H.out), Below.refl _ _⟩

theorem val_Valid (k n : Int) (s : ByteArray) (w : World) (hg : Glob w) (hs : s.size ≤ maxLen) :
    Calls Tryz.prog 46 #[.int .i64 k, .int .i64 n, .string s] w fun e w' => e = .returned (.bool (vv k n s)) ∧ Below w.heap.size w w' := by
  have HG := Lib.hid hg
  clear hg
  cases hv : vt k n
  · have hvv : vv k n s = false := by simp [vv, hv]
    have HVV := Lib.hid hvv
    clear hvv
    go_enter Tryz.func46, Tryz.ntmps46
    go_wp2_with fail
    refine (val_of_any k n _).mono ?_
    rintro e w1 ⟨C, rfl, hb, hC⟩
    have HB := Lib.hid hb
    rw [hv]
    rcases hC with ⟨rfl, -⟩ | ⟨B, -, ⟨-, rfl⟩ | ⟨-, rfl⟩ | ⟨-, rfl⟩ | ⟨-, rfl⟩⟩
    all_goals
      clear hb hv
      try unfold kd0
      try unfold kd1
      try unfold kd2
      try unfold kd3
      go_wp2_with fail
      go_ret
      exact ⟨ret_bool HVV.out.symm, HB.out.alloc HB.out.size _⟩
  · go_enter Tryz.func46, Tryz.ntmps46
    go_wp2_with fail
    refine (val_of_any k n _).mono ?_
    rintro e w1 ⟨C, rfl, hb, hC⟩
    have HB := Lib.hid hb
    rw [hv]
    rcases hC with ⟨-, h⟩ | ⟨B, hK, ⟨rfl, rfl⟩ | ⟨rfl, rfl⟩ | ⟨rfl, rfl⟩ | ⟨rfl, rfl⟩⟩
    · rw [hv] at h; cases h
    · have hvv : vv 0 n s = (bvIs s && decide ((s.size : Int) = n)) := by simp [vv, hv]
      have HVV := Lib.hid hvv
      clear hvv hb hv hK
      unfold kd0
      go_wp2_with fail
      refine (bits_Valid n s _ hs).mono ?_
      rintro e w2 ⟨rfl, hb2⟩
      go_wp2_with fail
      go_ret
      exact ⟨ret_bool HVV.out.symm, ext_trans HB.out (ext_alloc hb2)⟩
    · have hvv : vv 1 n s = decOk s := by simp [vv, hv]
      have HVV := Lib.hid hvv
      clear hvv hb hv hK
      unfold kd1
      go_wp2_with fail
      refine (kinds2 n s _ (HG.out.below (HB.out.alloc HB.out.size _)) hs).mono ?_
      rintro e w2 ⟨rfl, hb2⟩
      go_wp2_with fail
      go_ret
      exact ⟨ret_bool HVV.out.symm, ext_trans HB.out (ext_alloc hb2)⟩
    · have hvv : vv 2 n s = decide (s.size ≤ 64) := by simp [vv, hv]
      have HVV := Lib.hid hvv
      clear hvv hb hv hK
      unfold kd2
      go_wp2_with fail
      refine (kinds5 n s _ hs).mono ?_
      rintro e w2 ⟨rfl, hb2⟩
      go_wp2_with fail
      go_ret
      exact ⟨ret_bool HVV.out.symm, ext_trans HB.out (ext_alloc hb2)⟩
    · have hvv : vv 3 n s = nilB s := by simp [vv, hv]
      have HVV := Lib.hid hvv
      clear hvv hb hv hK
      unfold kd3
      go_wp2_with fail
      refine (kinds7 n s _).mono ?_
      rintro e w2 ⟨rfl, hb2⟩
      go_wp2_with fail
      go_ret
      exact ⟨ret_bool HVV.out.symm, ext_trans HB.out (ext_alloc hb2)⟩
theorem val_Initial (k n : Int) (w : World) :
    Calls Tryz.prog 42 #[.int .i64 k, .int .i64 n] w fun e w' => e = .returned (.string (vi k n)) ∧ Below w.heap.size w w' := by
  cases hv : vt k n
  · have hvv : vi k n = ⟨#[]⟩ := by simp [vi, hv]
    have HVV := Lib.hid hvv
    clear hvv
    go_enter Tryz.func42, Tryz.ntmps42
    go_wp2_with fail
    refine (val_of_any k n _).mono ?_
    rintro e w1 ⟨C, rfl, hb, hC⟩
    have HB := Lib.hid hb
    rw [hv]
    rcases hC with ⟨rfl, -⟩ | ⟨B, -, ⟨-, rfl⟩ | ⟨-, rfl⟩ | ⟨-, rfl⟩ | ⟨-, rfl⟩⟩
    all_goals
      clear hb hv
      try unfold kd0
      try unfold kd1
      try unfold kd2
      try unfold kd3
      go_wp2_with fail
      go_ret
      exact ⟨ret_str HVV.out.symm, HB.out.alloc HB.out.size _⟩
  · go_enter Tryz.func42, Tryz.ntmps42
    go_wp2_with fail
    refine (val_of_any k n _).mono ?_
    rintro e w1 ⟨C, rfl, hb, hC⟩
    have HB := Lib.hid hb
    rw [hv]
    rcases hC with ⟨-, h⟩ | ⟨B, hK, ⟨rfl, rfl⟩ | ⟨rfl, rfl⟩ | ⟨rfl, rfl⟩ | ⟨rfl, rfl⟩⟩
    · rw [hv] at h; cases h
    · have hvv : vi 0 n = allR n 120 := by simp [vi, hv]
      have HVV := Lib.hid hvv
      clear hvv hb hv hK
      unfold kd0
      go_wp2_with fail
      refine (kinds1 n _).mono ?_
      rintro e w2 ⟨rfl, hb2⟩
      go_wp2_with fail
      go_ret
      exact ⟨ret_str HVV.out.symm, ext_trans HB.out (ext_alloc hb2)⟩
    all_goals
      have hvv := hv
      have HK1 := cell_alloc hK.1 (.cells (kd1 B) 82)
      have HK2 := cell_alloc hK.2.1 (.cells (kd2 B) 82)
      have HK3 := cell_alloc hK.2.2 (.cells (kd3 B) 82)
      clear hb hvv hK
    · have HVV := Lib.hid (show vi 1 n = ⟨#[48]⟩ by simp [vi, hv])
      clear hv HK2 HK3
      unfold kd1 at *
      go_wp2_with fail
      refine (val_same1 n _ _ _ HK1).mono ?_
      rintro e w2 ⟨rfl, rfl⟩
      go_wp2_with fail
      go_ret
      exact ⟨ret_str HVV.out.symm, HB.out.alloc HB.out.size _⟩
    · have HVV := Lib.hid (show vi 2 n = ⟨#[]⟩ by simp [vi, hv])
      clear hv HK1 HK3
      unfold kd2 at *
      go_wp2_with fail
      refine (val_same1 n _ _ _ HK2).mono ?_
      rintro e w2 ⟨rfl, rfl⟩
      go_wp2_with fail
      go_ret
      exact ⟨ret_str HVV.out.symm, HB.out.alloc HB.out.size _⟩
    · have HVV := Lib.hid (show vi 3 n = ⟨#[]⟩ by simp [vi, hv])
      clear hv HK1 HK2
      unfold kd3 at *
      go_wp2_with fail
      refine (val_same1 n _ _ _ HK3).mono ?_
      rintro e w2 ⟨rfl, rfl⟩
      go_wp2_with fail
      go_ret
      exact ⟨ret_str HVV.out.symm, HB.out.alloc HB.out.size _⟩
end Go.Proofs.YtlbcfmhpkcpmaaaGreatDoor
