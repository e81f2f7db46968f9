import Derived.Test.YtlbcfmhpkcpmaaaGreatDoorBits3
namespace Go.Proofs.YtlbcfmhpkcpmaaaGreatDoor
open Go.RowKit

theorem u8_nl {c k : UInt8} {n : Int} (hn : (k.toNat : Int) = n) (h : c ≠ k) : ((c.toNat : Int) == n) = false := by
  rw [beq_eq_false_iff_ne, ← hn]; intro e; apply h; apply UInt8.toNat_inj.1; omega

set_option maxHeartbeats 400000 in
theorem ref_lValid (c : UInt8) (w : World) :
    Calls Tryz.prog 92 #[.int .u8 c.toNat] w fun e w' => e = .returned (.bool (codeOf c != -1)) ∧ w = w' := by
  by_cases h0 : c = 48
  · subst h0
    go_enter Tryz.func92, Tryz.ntmps92
    go_wp2
    go_ret
    exact ⟨rfl, rfl⟩
  by_cases h1 : c = 49
  · subst h1
    go_enter Tryz.func92, Tryz.ntmps92
    go_wp2
    go_ret
    exact ⟨rfl, rfl⟩
  by_cases h2 : c = 120
  · subst h2
    go_enter Tryz.func92, Tryz.ntmps92
    go_wp2
    go_ret
    exact ⟨rfl, rfl⟩
  by_cases h3 : c = 122
  · subst h3
    go_enter Tryz.func92, Tryz.ntmps92
    go_wp2
    go_ret
    exact ⟨rfl, rfl⟩
  have g0 := u8_nl (n := 48) rfl h0
  have g1 := u8_nl (n := 49) rfl h1
  have g2 := u8_nl (n := 120) rfl h2
  have g3 := u8_nl (n := 122) rfl h3
  have e : codeOf c = -1 := by simp [codeOf, h0, h1, h2, h3]
  have E := Lib.hid e
  clear e
  go_enter Tryz.func92, Tryz.ntmps92
  go_wp2
  go_ret
  exact ⟨ret_bool (by rw [E.out]; rfl), rfl⟩

set_option maxHeartbeats 400000 in
theorem ref_lNot (c : UInt8) (w : World) :
    Calls Tryz.prog 94 #[.int .u8 c.toNat] w fun e w' => e = .returned (.int .u8 (if c = 48 then (49 : UInt8) else if c = 49 then 48 else 120).toNat) ∧ w = w' := by
  by_cases h0 : c = 48
  · subst h0
    go_enter Tryz.func94, Tryz.ntmps94
    go_wp2
    go_ret
    exact ⟨rfl, rfl⟩
  by_cases h1 : c = 49
  · subst h1
    go_enter Tryz.func94, Tryz.ntmps94
    go_wp2
    go_ret
    exact ⟨rfl, rfl⟩
  have g0 := u8_nl (n := 48) rfl h0
  have g1 := u8_nl (n := 49) rfl h1
  go_enter Tryz.func94, Tryz.ntmps94
  go_wp2
  go_ret
  exact ⟨rfl, rfl⟩

set_option maxHeartbeats 400000 in
theorem ref_lInverse (c : UInt8) (w : World) :
    Calls Tryz.prog 85 #[.int .u8 c.toNat] w fun e w' => e = .returned (.int .u8 (invB c).toNat) ∧ w = w' := by
  by_cases h0 : c = 122
  · subst h0
    go_enter Tryz.func85, Tryz.ntmps85
    go_wp2
    go_ret
    exact ⟨rfl, rfl⟩
  have E := Lib.hid (show (if c = 48 then (49 : UInt8) else if c = 49 then 48 else 120) = invB c by unfold invB; rw [if_neg h0])
  have g0 := u8_nl (n := 122) rfl h0
  go_enter Tryz.func85, Tryz.ntmps85
  go_wp2_with fail
  refine (ref_lNot _ _).mono ?_
  rintro e w' ⟨rfl, rfl⟩
  rw [E.out]
  go_wp2_with fail
  go_ret
  exact ⟨rfl, rfl⟩

theorem all_take_at (s : ByteArray) (k : Nat) (h : k < s.size) (p : UInt8 → Bool) : (s.data.toList.take (k + 1)).all p = ((s.data.toList.take k).all p && p s[k]) := by
  rw [take_snoc s k h]; simp

theorem bvIs_no (s : ByteArray) (k : Nat) (h : k < s.size) (hc : codeOf s[k] = -1) : bvIs s = false := by
  unfold bvIs
  have : s.data.toList.all (fun c => codeOf c != -1) = false := by
    rw [List.all_eq_false]
    exact ⟨s[k], by simp [ByteArray.getElem_eq_getElem_data], by simp [hc]⟩
  rw [this, Bool.and_false]

set_option maxHeartbeats 400000 in
theorem ref_IsValue (s : ByteArray) (w : World) (hs : s.size ≤ maxLen) :
    Calls Tryz.prog 84 #[.string s] w fun e w' => e = .returned (.bool (bvIs s)) ∧ Below w.heap.size w w' := by
  unfold maxLen at hs
  go_enter Tryz.func84, Tryz.ntmps84
  go_wp2_with fail
  go_loopw [3] (fun i wr => ∃ k : Nat, k ≤ s.size ∧ i = .int .i64 k ∧ (s.data.toList.take k).all (fun c => codeOf c != -1) = true ∧ Below w.heap.size w wr)
    (fun i _ => s.size - (intOf i).toNat)
  case atStart => exact ⟨0, Nat.zero_le _, rfl, by simp, Below.refl _ _⟩
  case round =>
    obtain ⟨k, hk, rfl, ha, hb⟩ := hrel
    have HA := Lib.hid ha
    clear ha
    by_cases hlt : k < s.size
    · by_cases hc : codeOf s[k] = -1
      · have H := Lib.hid hc
        have HN := Lib.hid (bvIs_no s k hlt hc)
        clear hc
        go_wp2_with fail
        refine (ref_lValid _ _).mono ?_
        rintro e w' ⟨rfl, rfl⟩
        rw [H.out]
        go_wp2_with fail
        go_ret
        exact ⟨ret_bool HN.out.symm, hb⟩
      · have H := Lib.hid (show (codeOf s[k] != -1) = true by rw [bne_iff_ne]; exact hc)
        clear hc
        go_wp2_with fail
        refine (ref_lValid _ _).mono ?_
        rintro e w' ⟨rfl, rfl⟩
        rw [H.out]
        go_wp2_with fail
        go_roundw
        case rel => exact ⟨k + 1, by omega, by go_num, by rw [all_take_at s k hlt, HA.out, H.out]; rfl, hb⟩
        case measure => simp [intOf]; omega
    · obtain rfl : k = s.size := by omega
      have HE := Lib.hid (show bvIs s = (decide (1 ≤ s.size) && decide (s.size ≤ 128)) by
        have := HA.out
        rw [List.take_of_length_le (by simp)] at this
        unfold bvIs; rw [this, Bool.and_true])
      by_cases h1 : 1 ≤ s.size
      · go_wp2_with fail
        all_goals
          go_ret
          refine ⟨ret_bool ?_, hb⟩
          rw [HE.out]
          simp [h1]; omega
      · go_wp2_with fail
        all_goals
          go_ret
          refine ⟨ret_bool ?_, hb⟩
          rw [HE.out]
          simp [h1]

set_option maxHeartbeats 400000 in
theorem ref_bValid (n : Int) (s : ByteArray) (w : World) (hs : s.size ≤ maxLen) :
    Calls Tryz.prog 75 #[.int .i64 n, .string s] w fun e w' => e = .returned (.bool (bvIs s && decide ((s.size : Int) = n))) ∧ Below w.heap.size w w' := by
  unfold maxLen at hs
  go_enter Tryz.func75, Tryz.ntmps75
  go_wp2_with fail
  refine (ref_IsValue _ _ hs).mono ?_
  rintro e w1 ⟨rfl, hb⟩
  cases h : bvIs s
  all_goals
    go_wp2
    go_ret
    refine ⟨ret_bool ?_, hb⟩
  · simp [h]
  · rw [Bool.eq_iff_iff]; simp [h]
end Go.Proofs.YtlbcfmhpkcpmaaaGreatDoor
