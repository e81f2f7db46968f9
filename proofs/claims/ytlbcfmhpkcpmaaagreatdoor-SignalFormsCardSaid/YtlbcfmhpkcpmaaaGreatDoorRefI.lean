import Derived.Test.YtlbcfmhpkcpmaaaGreatDoorRefH
import Derived.Test.YtlbcfmhpkcpmaaaGreatDoorVal5
namespace Go.Proofs.YtlbcfmhpkcpmaaaGreatDoor
open Go.RowKit

set_option maxHeartbeats 400000 in
set_option maxRecDepth 100000 in
theorem ref_ValidType (k n : Int) (w : World) : Calls Tryz.prog 48 #[.int .i64 k, .int .i64 n] w fun e w' => e = .returned (.bool (vt k n)) ∧ w = w' := by
  by_cases hk : k = 0
  · subst hk
    by_cases h1 : 1 ≤ n
    · by_cases h2 : n ≤ 128
      · have HV := Lib.hid (show vt 0 n = true by simp [vt, h1, h2])
        go_enter Tryz.func48, Tryz.ntmps48
        go_wp2_with fail
        go_ret
        exact ⟨ret_bool HV.out.symm, rfl⟩
      · have HV := Lib.hid (show vt 0 n = false by simp [vt, h2])
        go_enter Tryz.func48, Tryz.ntmps48
        go_wp2_with fail
        go_ret
        exact ⟨ret_bool HV.out.symm, rfl⟩
    · have HV := Lib.hid (show vt 0 n = false by simp [vt, h1])
      have h1' : n < 1 := by omega
      clear h1
      go_enter Tryz.func48, Tryz.ntmps48
      go_wp2_with fail
      go_ret
      exact ⟨ret_bool HV.out.symm, rfl⟩
  · have hkb : (k == 0) = false := by simpa using hk
    by_cases h1 : 0 < k
    · by_cases h2 : k ≤ 3
      · by_cases h3 : n = 0
        · subst h3
          have HV := Lib.hid (show vt k 0 = true by unfold vt; simp; omega)
          clear hk
          go_enter Tryz.func48, Tryz.ntmps48
          go_wp2_with fail
          go_ret
          exact ⟨ret_bool HV.out.symm, rfl⟩
        · have HV := Lib.hid (show vt k n = false by simp [vt, h3, hk])
          have h3b : (n == 0) = false := by simpa using h3
          clear hk h3
          go_enter Tryz.func48, Tryz.ntmps48
          go_wp2_with fail
          go_ret
          exact ⟨ret_bool HV.out.symm, rfl⟩
      · have HV := Lib.hid (show vt k n = false by unfold vt; simp; omega)
        have h2' : 3 < k := by omega
        clear hk h2
        go_enter Tryz.func48, Tryz.ntmps48
        go_wp2_with fail
        go_ret
        exact ⟨ret_bool HV.out.symm, rfl⟩
    · have HV := Lib.hid (show vt k n = false by unfold vt; simp; omega)
      have h1' : k ≤ 0 := by omega
      clear hk h1
      go_enter Tryz.func48, Tryz.ntmps48
      go_wp2_with fail
      go_ret
      exact ⟨ret_bool HV.out.symm, rfl⟩

theorem vt_kind {k n : Int} (h : vt k n = true) : k = 0 ∨ k = 1 ∨ k = 2 ∨ k = 3 := by
  unfold vt at h
  simp at h
  omega

set_option maxHeartbeats 400000 in
set_option maxRecDepth 100000 in
theorem ref_vInitial (k n : Int) (w : World) : Calls Tryz.prog 52 #[.int .i64 k, .int .i64 n] w fun e w' => e = .returned (.string (vi k n)) ∧ Below w.heap.size w w' := by
  have HT := Lib.hid (ref_ValidType k n w)
  cases hv : vt k n
  · have HI := Lib.hid (show vi k n = ⟨#[]⟩ by simp [vi, hv])
    rw [hv] at HT
    clear hv
    go_enter Tryz.func52, Tryz.ntmps52
    go_wp2_with fail
    refine HT.out.mono ?_
    rintro e w1 ⟨rfl, rfl⟩
    go_wp2_with fail
    go_ret
    exact ⟨ret_str HI.out.symm, Below.refl _ _⟩
  · rcases vt_kind hv with rfl | rfl | rfl | rfl
    · have HI := Lib.hid (show vi 0 n = allR n 120 by simp [vi, hv])
      rw [hv] at HT
      clear hv
      go_enter Tryz.func52, Tryz.ntmps52
      go_wp2_with fail
      refine HT.out.mono ?_
      rintro e w1 ⟨rfl, rfl⟩
      go_wp2_with fail
      refine (ref_All n 120 _).mono ?_
      rintro e w2 ⟨rfl, hb⟩
      have HB := Lib.hid hb
      clear hb
      go_wp2_with fail
      go_ret
      exact ⟨ret_str HI.out.symm, HB.out⟩
    · have HI := Lib.hid (show vi 1 n = ⟨#[48]⟩ by simp [vi, hv])
      rw [hv] at HT
      clear hv
      go_enter Tryz.func52, Tryz.ntmps52
      go_wp2_with fail
      refine HT.out.mono ?_
      rintro e w1 ⟨rfl, rfl⟩
      go_wp2_with fail
      go_ret
      exact ⟨ret_str HI.out.symm, Below.refl _ _⟩
    · have HI := Lib.hid (show vi 2 n = ⟨#[]⟩ by simp [vi, hv])
      rw [hv] at HT
      clear hv
      go_enter Tryz.func52, Tryz.ntmps52
      go_wp2_with fail
      refine HT.out.mono ?_
      rintro e w1 ⟨rfl, rfl⟩
      go_wp2_with fail
      go_ret
      exact ⟨ret_str HI.out.symm, Below.refl _ _⟩
    · have HI := Lib.hid (show vi 3 n = ⟨#[]⟩ by simp [vi, hv])
      rw [hv] at HT
      clear hv
      go_enter Tryz.func52, Tryz.ntmps52
      go_wp2_with fail
      refine HT.out.mono ?_
      rintro e w1 ⟨rfl, rfl⟩
      go_wp2_with fail
      go_ret
      exact ⟨ret_str HI.out.symm, Below.refl _ _⟩

theorem nilB_t {s : ByteArray} (h : s.size = 0) : s.toList.isEmpty = true := by
  rw [ByteArray.toList_eq, List.length_eq_zero_iff.1 (show s.data.toList.length = 0 by simpa using h)]; rfl

set_option maxHeartbeats 400000 in
set_option maxRecDepth 100000 in
theorem ref_vValid (k n : Int) (s : ByteArray) (w : World) (hs : s.size ≤ maxLen) : Calls Tryz.prog 50 #[.int .i64 k, .int .i64 n, .string s] w fun e w' => e = .returned (.bool (vv k n s)) ∧ Below w.heap.size w w' := by
  have HT := Lib.hid (ref_ValidType k n w)
  have HM := Lib.hid hs
  unfold maxLen at hs
  cases hv : vt k n
  · have HI := Lib.hid (show vv k n s = false by simp [vv, hv])
    rw [hv] at HT
    clear hv
    go_enter Tryz.func50, Tryz.ntmps50
    go_wp2_with fail
    refine HT.out.mono ?_
    rintro e w1 ⟨rfl, rfl⟩
    go_wp2_with fail
    go_ret
    exact ⟨ret_bool HI.out.symm, Below.refl _ _⟩
  · rcases vt_kind hv with rfl | rfl | rfl | rfl
    · have HI := Lib.hid (show vv 0 n s = (bvIs s && decide ((s.size : Int) = n)) by simp [vv, hv])
      rw [hv] at HT
      clear hv
      go_enter Tryz.func50, Tryz.ntmps50
      go_wp2_with fail
      refine HT.out.mono ?_
      rintro e w1 ⟨rfl, rfl⟩
      go_wp2_with fail
      refine (ref_bValid n s _ HM.out).mono ?_
      rintro e w2 ⟨rfl, hb⟩
      have HB := Lib.hid hb
      clear hb
      go_wp2_with fail
      go_ret
      exact ⟨ret_bool HI.out.symm, HB.out⟩
    · have HI := Lib.hid (show vv 1 n s = decOk s by simp [vv, hv])
      rw [hv] at HT
      clear hv
      go_enter Tryz.func50, Tryz.ntmps50
      go_wp2_with fail
      refine HT.out.mono ?_
      rintro e w1 ⟨rfl, rfl⟩
      go_wp2_with fail
      refine (ref_dValid s _ HM.out).mono ?_
      rintro e w2 ⟨rfl, hb⟩
      have HB := Lib.hid hb
      clear hb
      go_wp2_with fail
      go_ret
      exact ⟨ret_bool HI.out.symm, HB.out⟩
    · have HI := Lib.hid (show vv 2 n s = decide (s.size ≤ 64) by simp [vv, hv])
      rw [hv] at HT
      clear hv
      go_enter Tryz.func50, Tryz.ntmps50
      go_wp2_with fail
      refine HT.out.mono ?_
      rintro e w1 ⟨rfl, rfl⟩
      go_wp2_with fail
      go_ret
      exact ⟨ret_bool (by rw [HI.out, Bool.eq_iff_iff]; simp; try omega), Below.refl _ _⟩
    · have HI := Lib.hid (show vv 3 n s = nilB s by simp [vv, hv])
      rw [hv] at HT
      clear hv
      by_cases hz : s.size = 0
      · have HN := Lib.hid (show nilB s = true by simp [nilB, hz])
        obtain rfl : s = ⟨#[]⟩ := by
          obtain ⟨a⟩ := s
          have : a = #[] := Array.eq_empty_of_size_eq_zero hz
          rw [this]
        clear hz
        go_enter Tryz.func50, Tryz.ntmps50
        go_wp2_with fail
        refine HT.out.mono ?_
        rintro e w1 ⟨rfl, rfl⟩
        go_wp2_with fail
        go_ret
        exact ⟨ret_bool (by rw [HI.out, HN.out]; try rfl), Below.refl _ _⟩
      · have HN := Lib.hid (show nilB s = false by simp [nilB, hz])
        have hne := toList_ne s hz
        clear hz
        go_enter Tryz.func50, Tryz.ntmps50
        go_wp2_with fail
        refine HT.out.mono ?_
        rintro e w1 ⟨rfl, rfl⟩
        go_wp2_with fail
        go_ret
        exact ⟨ret_bool (by rw [HI.out, HN.out]; try rfl), Below.refl _ _⟩
end Go.Proofs.YtlbcfmhpkcpmaaaGreatDoor
