import Derived.Test.YtimeilkelnljnaaGreatDoorBits3
import Derived.Test.YtimeilkelnljnaaGreatDoorBits4
import Derived.Test.YtimeilkelnljnaaGreatDoorDec6
import Derived.RegionTactic
import Derived.Deep.DeepCutAuto
namespace Go.Proofs.YtimeilkelnljnaaGreatDoor
open Go.RowKit

theorem u8_nl {c k : UInt8} {n : Int} (hn : (k.toNat : Int) = n) (h : c ≠ k) : ((c.toNat : Int) == n) = false := by
  rw [beq_eq_false_iff_ne, ← hn]; intro e; apply h; apply UInt8.toNat_inj.1; omega

set_option maxHeartbeats 400000 in
theorem ref_lValid (c : UInt8) (w : World) :
    Calls Tryz.prog 100 #[.int .u8 c.toNat] w fun e w' => e = .returned (.bool (codeOf c != -1)) ∧ w = w' := by
  by_cases h0 : c = 48
  · subst h0
    go_enter Tryz.func100, Tryz.ntmps100
    go_wp2
    go_ret
    exact ⟨rfl, rfl⟩
  by_cases h1 : c = 49
  · subst h1
    go_enter Tryz.func100, Tryz.ntmps100
    go_wp2
    go_ret
    exact ⟨rfl, rfl⟩
  by_cases h2 : c = 120
  · subst h2
    go_enter Tryz.func100, Tryz.ntmps100
    go_wp2
    go_ret
    exact ⟨rfl, rfl⟩
  by_cases h3 : c = 122
  · subst h3
    go_enter Tryz.func100, Tryz.ntmps100
    go_wp2
    go_ret
    exact ⟨rfl, rfl⟩
  have g0 := u8_nl (n := 48) rfl h0
  have g1 := u8_nl (n := 49) rfl h1
  have g2 := u8_nl (n := 120) rfl h2
  have g3 := u8_nl (n := 122) rfl h3
  have e : codeOf c = -1 := by simp [codeOf, h0, h1, h2, h3]
  have E := Lib.hid e
  clear e
  go_enter Tryz.func100, Tryz.ntmps100
  go_wp2
  go_ret
  exact ⟨ret_bool (by rw [E.out]; rfl), rfl⟩

set_option maxHeartbeats 400000 in
theorem ref_lNot (c : UInt8) (w : World) :
    Calls Tryz.prog 102 #[.int .u8 c.toNat] w fun e w' => e = .returned (.int .u8 (if c = 48 then (49 : UInt8) else if c = 49 then 48 else 120).toNat) ∧ w = w' := by
  by_cases h0 : c = 48
  · subst h0
    go_enter Tryz.func102, Tryz.ntmps102
    go_wp2
    go_ret
    exact ⟨rfl, rfl⟩
  by_cases h1 : c = 49
  · subst h1
    go_enter Tryz.func102, Tryz.ntmps102
    go_wp2
    go_ret
    exact ⟨rfl, rfl⟩
  have g0 := u8_nl (n := 48) rfl h0
  have g1 := u8_nl (n := 49) rfl h1
  go_enter Tryz.func102, Tryz.ntmps102
  go_wp2
  go_ret
  exact ⟨rfl, rfl⟩

set_option maxHeartbeats 400000 in
theorem ref_lInverse (c : UInt8) (w : World) :
    Calls Tryz.prog 80 #[.int .u8 c.toNat] w fun e w' => e = .returned (.int .u8 (invB c).toNat) ∧ w = w' := by
  by_cases h0 : c = 122
  · subst h0
    go_enter Tryz.func80, Tryz.ntmps80
    go_wp2
    go_ret
    exact ⟨rfl, rfl⟩
  have E := Lib.hid (show (if c = 48 then (49 : UInt8) else if c = 49 then 48 else 120) = invB c by unfold invB; rw [if_neg h0])
  have g0 := u8_nl (n := 122) rfl h0
  go_enter Tryz.func80, Tryz.ntmps80
  go_wp2_with fail
  refine (ref_lNot _ _).mono ?_
  rintro e w' ⟨rfl, rfl⟩
  rw [E.out]
  go_wp2_with fail
  go_ret
  exact ⟨rfl, rfl⟩

theorem all_take_at (s : ByteArray) (k : Nat) (h : k < s.size) (p : UInt8 → Bool) : (s.data.toList.take (k + 1)).all p = ((s.data.toList.take k).all p && p s[k]) := by
  rw [take_snoc s k h]; simp

theorem bvIs_no (s : ByteArray) (k : Nat) (h : k < s.size) (hc : codeOf s[k] = -1) : bvIs s = false := by
  unfold bvIs
  have : s.data.toList.all (fun c => codeOf c != -1) = false := by
    rw [List.all_eq_false]
    exact ⟨s[k], by simp [ByteArray.getElem_eq_getElem_data], by simp [hc]⟩
  rw [this, Bool.and_false]

set_option maxHeartbeats 400000 in
theorem ref_IsValue (s : ByteArray) (w : World) (hs : s.size ≤ maxLen) :
    Calls Tryz.prog 79 #[.string s] w fun e w' => e = .returned (.bool (bvIs s)) ∧ Below w.heap.size w w' := by
  unfold maxLen at hs
  go_enter Tryz.func79, Tryz.ntmps79
  go_wp2_with fail
  go_loopw [3] (fun i wr => ∃ k : Nat, k ≤ s.size ∧ i = .int .i64 k ∧ (s.data.toList.take k).all (fun c => codeOf c != -1) = true ∧ Below w.heap.size w wr)
    (fun i _ => s.size - (intOf i).toNat)
  case atStart => exact ⟨0, Nat.zero_le _, rfl, by simp, Below.refl _ _⟩
  case round =>
    obtain ⟨k, hk, rfl, ha, hb⟩ := hrel
    have HA := Lib.hid ha
    clear ha
    by_cases hlt : k < s.size
    · by_cases hc : codeOf s[k] = -1
      · have H := Lib.hid hc
        have HN := Lib.hid (bvIs_no s k hlt hc)
        clear hc
        go_wp2_with fail
        refine (ref_lValid _ _).mono ?_
        rintro e w' ⟨rfl, rfl⟩
        rw [H.out]
        go_wp2_with fail
        go_ret
        exact ⟨ret_bool HN.out.symm, hb⟩
      · have H := Lib.hid (show (codeOf s[k] != -1) = true by rw [bne_iff_ne]; exact hc)
        clear hc
        go_wp2_with fail
        refine (ref_lValid _ _).mono ?_
        rintro e w' ⟨rfl, rfl⟩
        rw [H.out]
        go_wp2_with fail
        go_roundw
        case rel => exact ⟨k + 1, by omega, by go_num, by rw [all_take_at s k hlt, HA.out, H.out]; rfl, hb⟩
        case measure => simp [intOf]; omega
    · obtain rfl : k = s.size := by omega
      have HE := Lib.hid (show bvIs s = (decide (1 ≤ s.size) && decide (s.size ≤ 128)) by
        have := HA.out
        rw [List.take_of_length_le (by simp)] at this
        unfold bvIs; rw [this, Bool.and_true])
      by_cases h1 : 1 ≤ s.size
      · go_wp2_with fail
        all_goals
          go_ret
          refine ⟨ret_bool ?_, hb⟩
          rw [HE.out]
          simp [h1]; omega
      · go_wp2_with fail
        all_goals
          go_ret
          refine ⟨ret_bool ?_, hb⟩
          rw [HE.out]
          simp [h1]

set_option maxHeartbeats 400000 in
theorem ref_bValid (n : Int) (s : ByteArray) (w : World) (hs : s.size ≤ maxLen) :
    Calls Tryz.prog 77 #[.int .i64 n, .string s] w fun e w' => e = .returned (.bool (bvIs s && decide ((s.size : Int) = n))) ∧ Below w.heap.size w w' := by
  unfold maxLen at hs
  go_enter Tryz.func77, Tryz.ntmps77
  go_wp2_with fail
  refine (ref_IsValue _ _ hs).mono ?_
  rintro e w1 ⟨rfl, hb⟩
  cases h : bvIs s
  all_goals
    go_wp2
    go_ret
    refine ⟨ret_bool ?_, hb⟩
  · simp [h]
  · rw [Bool.eq_iff_iff]; simp [h]
end Go.Proofs.YtimeilkelnljnaaGreatDoor

namespace Go.Proofs.YtimeilkelnljnaaGreatDoor
open Go.RowKit

def strLen : Value → Nat | .string s => s.size | _ => 0
theorem ba_app (a b : ByteArray) : (a ++ b).data.toList = a.data.toList ++ b.data.toList := by simp
theorem rep_snoc (c : UInt8) (o : ByteArray) (h : o.data.toList = List.replicate o.size c) : (o ++ (⟨#[c]⟩ : ByteArray)).data.toList = List.replicate (o ++ (⟨#[c]⟩ : ByteArray)).size c := by
  rw [ba_app, h, ByteArray.size_append]
  show _ = List.replicate (o.size + 1) c
  rw [List.replicate_succ']

set_option maxHeartbeats 400000 in
set_option maxRecDepth 100000 in
theorem ref_All (n : Int) (c : UInt8) (w : World) :
    Calls Tryz.prog 76 #[.int .i64 n, .int .u8 c.toNat] w fun e w' => e = .returned (.string (allR n c)) ∧ Below w.heap.size w w' := by
  by_cases h1 : n < 1 ∨ 128 < n
  · have e : allR n c = ⟨#[]⟩ := by rw [allR, if_pos]; omega
    have E := Lib.hid e
    clear e
    rcases h1 with h1 | h1
    all_goals
      go_enter Tryz.func76, Tryz.ntmps76
      go_wp2_with fail
      go_ret
      exact ⟨ret_str E.out.symm, Below.refl _ _⟩
  obtain ⟨g1, g2⟩ : 1 ≤ n ∧ n ≤ 128 := by omega
  clear h1
  by_cases h2 : codeOf c = -1
  · have e : allR n c = ⟨#[]⟩ := by rw [allR, if_pos]; omega
    have E := Lib.hid e
    have h3 : (codeOf c != -1) = false := by simp [h2]
    clear e h2
    go_enter Tryz.func76, Tryz.ntmps76
    go_wp2_with fail
    refine (ref_lValid _ _).mono ?_
    rintro e w' ⟨rfl, rfl⟩
    go_wp2_with fail
    go_ret
    exact ⟨ret_str E.out.symm, Below.refl _ _⟩
  · have e : allR n c = ⟨(List.replicate n.toNat c).toArray⟩ := by rw [allR, if_neg]; omega
    have E := Lib.hid e
    have h3 : (codeOf c != -1) = true := by simp [h2]
    clear e h2
    go_enter Tryz.func76, Tryz.ntmps76
    go_wp2_with fail
    refine (ref_lValid _ _).mono ?_
    rintro e w' ⟨rfl, rfl⟩
    go_wp2_with fail
    go_loopw [5] (fun o_ wr => ∃ o : ByteArray, o_ = .string o ∧ o.data.toList = List.replicate o.size c ∧ (o.size : Int) ≤ n ∧ Below w.heap.size w wr) (fun o_ _ => n.toNat - strLen o_)
    case atStart => exact ⟨⟨#[]⟩, rfl, rfl, by simp [ByteArray.size]; omega, Below.refl _ _⟩
    case round =>
      obtain ⟨o, rfl, ho, hl, hb⟩ := hrel
      have HO := Lib.hid ho
      clear ho
      have hcb := one_byte Tryz.prog wr 99 9 5 c Tryz.underlying99 Tryz.underlying5 Tryz.underlying9
      by_cases hlt : (o.size : Int) < n
      · have hsz : (o ++ (⟨#[c]⟩ : ByteArray)).size = o.size + 1 := by rw [ByteArray.size_append]; rfl
        have HSZ := Lib.hid hsz
        clear hsz
        go_wp2_with fail
        go_roundw
        case rel => exact ⟨o ++ (⟨#[c]⟩ : ByteArray), rfl, rep_snoc c o HO.out, by rw [HSZ.out]; omega, hb.alloc hb.size _⟩
        case measure => show n.toNat - (o ++ (⟨#[c]⟩ : ByteArray)).size < n.toNat - o.size; rw [HSZ.out]; omega
      · go_wp2_with fail
        go_ret
        refine ⟨ret_str ?_, hb⟩
        rw [E.out]
        apply ba_eq
        rw [HO.out, show o.size = n.toNat by omega]

theorem map_snoc (g : UInt8 → UInt8) (s : ByteArray) (k : Nat) (h : k < s.size) (o : ByteArray) (ho : o.data.toList = (s.data.toList.take k).map g) : (o ++ (⟨#[g s[k]]⟩ : ByteArray)).data.toList = (s.data.toList.take (k + 1)).map g := by
  rw [ba_app, ho, take_snoc s k h, List.map_append]
  rfl

set_option maxHeartbeats 400000 in
set_option maxRecDepth 100000 in
theorem ref_Inverse (s : ByteArray) (w : World) (hs : s.size ≤ maxLen) :
    Calls Tryz.prog 53 #[.string s] w fun e w' => e = .returned (.string (bvInv s)) ∧ Below w.heap.size w w' := by
  unfold maxLen at hs
  cases h : bvIs s
  · have E := Lib.hid (show bvInv s = ⟨#[]⟩ by simp [bvInv, h])
    go_enter Tryz.func53, Tryz.ntmps53
    go_wp2_with fail
    refine (ref_IsValue _ _ (by unfold maxLen; omega)).mono ?_
    rintro e w1 ⟨rfl, hb⟩
    rw [h]
    clear h
    go_wp2_with fail
    go_ret
    exact ⟨ret_str E.out.symm, hb⟩
  · have E := Lib.hid (show bvInv s = ⟨(s.data.toList.map invB).toArray⟩ by simp [bvInv, h])
    go_enter Tryz.func53, Tryz.ntmps53
    go_wp2_with fail
    refine (ref_IsValue _ _ (by unfold maxLen; omega)).mono ?_
    rintro e w1 ⟨rfl, hb⟩
    rw [h]
    clear h
    go_wp2_with fail
    go_loopw [3, 4] (fun o_ i wr => ∃ (o : ByteArray) (k : Nat), o_ = .string o ∧ i = .int .i64 k ∧ k ≤ s.size ∧ o.data.toList = (s.data.toList.take k).map invB ∧ Below w.heap.size w wr) (fun _ i _ => s.size - (intOf i).toNat)
    case atStart => exact ⟨⟨#[]⟩, 0, rfl, rfl, Nat.zero_le _, rfl, hb⟩
    case round =>
      obtain ⟨o, k, rfl, rfl, hk, ho, hb⟩ := hrel
      have HO := Lib.hid ho
      clear ho
      by_cases hlt : k < s.size
      · have hcb := one_byte Tryz.prog wr 99 9 5 (invB s[k]) Tryz.underlying99 Tryz.underlying5 Tryz.underlying9
        have HN := Lib.hid (map_snoc invB s k hlt o HO.out)
        have hob : o.size + 1 ≤ 9223372036854775807 := by have := congrArg List.length HO.out; simp at this; omega
        go_wp2_with fail
        refine (ref_lInverse _ _).mono ?_
        rintro e w' ⟨rfl, rfl⟩
        go_wp2_with fail
        go_roundw
        case rel => exact ⟨o ++ (⟨#[invB s[k]]⟩ : ByteArray), k + 1, rfl, by go_num, by omega, HN.out, hb.alloc hb.size _⟩
        case measure => simp [intOf]; omega
      · have HE := Lib.hid (show o.data.toList = s.data.toList.map invB by have := HO.out; rwa [List.take_of_length_le (by simp; omega)] at this)
        go_wp2_with fail
        go_ret
        refine ⟨ret_str ?_, hb⟩
        rw [E.out]
        exact ba_eq _ _ HE.out

set_option maxHeartbeats 400000 in
theorem ref_Slice (s : ByteArray) (low n : Int) (w : World) (hs : s.size ≤ maxLen) :
    Calls Tryz.prog 52 #[.string s, .int .i64 low, .int .i64 n] w fun e w' => e = .returned (.tuple #[.string (slR s low n).1, .int .i64 (slR s low n).2]) ∧ Below w.heap.size w w' := by
  cases h : bvIs s
  · have e : slR s low n = (⟨#[]⟩, 1) := by simp [slR, h]
    have E := Lib.hid e
    clear e
    go_enter Tryz.func52, Tryz.ntmps52
    go_wp2_with fail
    refine (ref_IsValue _ _ hs).mono ?_
    rintro e w1 ⟨rfl, hb⟩
    rw [h]
    go_wp2_with fail
    go_ret2
    exact ⟨ret_str_int E.out.symm, hb⟩
  by_cases hc : low < 0 ∨ n < 1 ∨ (s.size : Int) < n ∨ (s.size : Int) - n < low
  · have e : slR s low n = (⟨#[]⟩, 2) := by rw [slR, if_neg (by simp [h]), if_pos hc]
    have E := Lib.hid e
    clear e
    unfold maxLen at hs
    by_cases hc1 : low < 0 ∨ (s.size : Int) < low
    · clear hc
      rcases hc1 with hc1 | hc1
      all_goals
        go_enter Tryz.func52, Tryz.ntmps52
        go_wp2_with fail
        refine (ref_IsValue _ _ hs).mono ?_
        rintro e w1 ⟨rfl, hb⟩
        rw [h]
        clear h
        go_wp2_with fail
        go_ret2
        exact ⟨ret_str_int E.out.symm, hb⟩
    · obtain ⟨g1, g2⟩ : 0 ≤ low ∧ low ≤ (s.size : Int) := by omega
      by_cases hc2 : n < 1
      · clear hc hc1
        go_enter Tryz.func52, Tryz.ntmps52
        go_wp2_with fail
        refine (ref_IsValue _ _ hs).mono ?_
        rintro e w1 ⟨rfl, hb⟩
        rw [h]
        clear h
        go_wp2_with fail
        go_ret2
        exact ⟨ret_str_int E.out.symm, hb⟩
      · have g3 : (s.size : Int) - low < n := by omega
        have g4 : 1 ≤ n := by omega
        clear hc hc1 hc2
        go_enter Tryz.func52, Tryz.ntmps52
        go_wp2_with fail
        refine (ref_IsValue _ _ hs).mono ?_
        rintro e w1 ⟨rfl, hb⟩
        rw [h]
        clear h
        go_wp2_with fail
        go_ret2
        exact ⟨ret_str_int E.out.symm, hb⟩
  · have e : slR s low n = (s.extract (s.size - low.toNat - n.toNat) (s.size - low.toNat), 0) := by rw [slR, if_neg (by simp [h]), if_neg hc]
    have E := Lib.hid e
    clear e
    unfold maxLen at hs
    obtain ⟨g1, g2, g3, g4⟩ : 0 ≤ low ∧ 1 ≤ n ∧ n ≤ (s.size : Int) ∧ low ≤ (s.size : Int) - n := by omega
    have g5 : n ≤ (s.size : Int) - low := by omega
    have g6 : low ≤ (s.size : Int) := by omega
    clear hc
    go_enter Tryz.func52, Tryz.ntmps52
    go_wp2_with fail
    refine (ref_IsValue _ _ hs).mono ?_
    rintro e w1 ⟨rfl, hb⟩
    rw [h]
    clear h
    go_wp2_with fail
    go_ret2
    refine ⟨ret_str_int (E.out.trans ?_).symm, hb⟩
    rw [show ((s.size : Int) - low - n).toNat = s.size - low.toNat - n.toNat by omega, show ((s.size : Int) - low).toNat = s.size - low.toNat by omega]
end Go.Proofs.YtimeilkelnljnaaGreatDoor

namespace Go.Proofs.YtimeilkelnljnaaGreatDoor
open Go.RowKit

set_option maxHeartbeats 400000 in
theorem ref_digit (c : UInt8) (w : World) :
    Calls Tryz.prog 159 #[.int .u8 c.toNat] w fun e w' => e = .returned (.bool (isDig c)) ∧ w = w' := by
  by_cases h0 : 48 ≤ c.toNat
  · by_cases h1 : c.toNat ≤ 57
    · have E := Lib.hid (show isDig c = true by simp [isDig, h0, h1])
      have g0 : (48 : Int) ≤ (c.toNat : Int) := by omega
      have g1 : (c.toNat : Int) ≤ 57 := by omega
      clear h0 h1
      go_enter Tryz.func159, Tryz.ntmps159
      go_wp2
      go_ret
      exact ⟨ret_bool E.out.symm, rfl⟩
    · have E := Lib.hid (show isDig c = false by simp [isDig]; omega)
      have g0 : (48 : Int) ≤ (c.toNat : Int) := by omega
      have g1 : 57 < (c.toNat : Int) := by omega
      clear h0 h1
      go_enter Tryz.func159, Tryz.ntmps159
      go_wp2
      go_ret
      exact ⟨ret_bool (by rw [E.out]; simp; omega), rfl⟩
  · have E := Lib.hid (show isDig c = false by simp [isDig]; omega)
    have g0 : (c.toNat : Int) < 48 := by omega
    clear h0
    go_enter Tryz.func159, Tryz.ntmps159
    go_wp2
    go_ret
    exact ⟨ret_bool E.out.symm, rfl⟩

set_option maxHeartbeats 400000 in
theorem ref_digits (s : ByteArray) (k : Nat) (w : World) (hk : k ≤ s.size) (hs : s.size ≤ maxLen) :
    Calls Tryz.prog 142 #[.string s, .int .i64 k] w fun e w' => e = .returned (.int .i64 (digRun s k)) ∧ w = w' := by
  unfold maxLen at hs
  have hle := digRun_le s k hk
  go_enter Tryz.func142, Tryz.ntmps142
  go_wp2_with fail
  go_loopw [5] (fun i wr => ∃ j : Nat, j ≤ digRun s k ∧ i = .int .i64 j ∧ wr = w) (fun i _ => s.size - (intOf i).toNat)
  case atStart => exact ⟨0, Nat.zero_le _, rfl, rfl⟩
  case round =>
    obtain ⟨j, hj, rfl, rfl⟩ := hrel
    have hw0 : IntKind.i64.wrap ((k : Int) + (j : Int)) = (k : Int) + (j : Int) := IntWalk.i64_in _ (by omega)
    by_cases hlt : j < digRun s k
    · have hkj : k + j < s.size := by omega
      have H := Lib.hid (digRun_at s k j hlt hkj)
      have g1 : (k : Int) + (j : Int) < (s.size : Int) := by omega
      have g0 : 0 ≤ (k : Int) + (j : Int) := by omega
      have g2 : ((k : Int) + (j : Int)).toNat = k + j := by omega
      go_wp2_with fail
      refine (ref_digit _ _).mono ?_
      rintro e w' ⟨rfl, rfl⟩
      rw [H.out]
      go_wp2_with fail
      go_roundw
      case rel => exact ⟨j + 1, by omega, by go_num, trivial⟩
      case measure => simp [intOf]; omega
    · obtain rfl : j = digRun s k := by omega
      by_cases hkj : k + digRun s k < s.size
      · have H := Lib.hid (digRun_end s k hkj)
        have g1 : (k : Int) + (digRun s k : Int) < (s.size : Int) := by omega
        have g0 : 0 ≤ (k : Int) + (digRun s k : Int) := by omega
        have g2 : ((k : Int) + (digRun s k : Int)).toNat = k + digRun s k := by omega
        go_wp2_with fail
        refine (ref_digit _ _).mono ?_
        rintro e w' ⟨rfl, rfl⟩
        rw [H.out]
        go_wp2_with fail
        go_ret
        exact ⟨rfl, rfl⟩
      · have g1 : (s.size : Int) ≤ (k : Int) + (digRun s k : Int) := by omega
        go_wp2_with fail
        go_ret
        exact ⟨rfl, rfl⟩
end Go.Proofs.YtimeilkelnljnaaGreatDoor

namespace Go.Proofs.YtimeilkelnljnaaGreatDoor
open Go.RowKit

theorem one_byteI (P : Program) (w : World) (src dst e : TypeId) (c : UInt8) (x : Int) (hx : x = (c.toNat : Int)) (hs : P.underlying src = some (.slice e)) (he : P.underlying e = some (.int .u8)) (hd : P.underlying dst = some .string) :
    (convert src dst (.slice (some ⟨w.heap.size, 0, none⟩) 1 1)).run P (w.alloc (.cells #[.int .u8 x] e)) = .ok (.string ⟨#[c]⟩) (w.alloc (.cells #[.int .u8 x] e)) := by
  subst hx
  exact one_byte P w src dst e c hs he hd
/-- the last digit -/
def digB (n : Nat) : UInt8 := UInt8.ofNat (48 + n % 10)
theorem dig_byte (n : Nat) : (48 : Int) + (n : Int) % 10 = ((digB n).toNat : Int) := by
  unfold digB
  have : (UInt8.ofNat (48 + n % 10)).toNat = 48 + n % 10 := by rw [UInt8.toNat_ofNat']; omega
  rw [this]; omega
def DecPost (ds : List UInt8) (w : World) (e : Ending) (w' : World) : Prop := ∃ o : ByteArray, e = .returned (.string o) ∧ o.data.toList = ds ∧ Below w.heap.size w w'
theorem decDigits_le (n : Nat) (h : n ≤ 1000000) : (Lib.decDigits n).length ≤ 20 := by rw [Lib.decDigits_length]; exact Lib.nDigits_le20 n (by omega)

set_option maxHeartbeats 400000 in
set_option maxRecDepth 100000 in
theorem ref_DecimalN (n : Nat) (hn : n ≤ 1000000) (w : World) : Calls Tryz.prog 144 #[.int .i64 n] w (DecPost (Lib.decDigits n) w) := by
  induction n using Nat.strongRecOn generalizing w with
  | _ n ih =>
    have IH := Lib.hid ih
    clear ih
    have g0 : (0 : Int) ≤ (n : Int) := by omega
    have hcb := one_byteI Tryz.prog w 99 9 5 (digB n) _ (dig_byte n) Tryz.underlying99 Tryz.underlying5 Tryz.underlying9
    by_cases h : n < 10
    · have HR := Lib.hid (show Lib.decDigits n = [digB n] by rw [Lib.decDigits, dif_pos h]; unfold digB; rw [Nat.mod_eq_of_lt h])
      have g1 : (n : Int) < 10 := by omega
      clear h
      go_enter Tryz.func144, Tryz.ntmps144
      go_wp2_with fail
      go_ret
      exact ⟨_, rfl, HR.out.symm, (Below.refl _ _).alloc (Nat.le_refl _) _⟩
    · have HR : Hid (Lib.decDigits n = Lib.decDigits (n / 10) ++ [digB n]) := Lib.hid (by
        rw [Lib.decDigits, dif_neg h]
        rfl)
      have g1 : (10 : Int) ≤ (n : Int) := by omega
      have hl := decDigits_le (n / 10) (by omega)
      have HI := Lib.hid (IH.out (n / 10) (by omega) (by omega) (w.alloc (.cells #[.int .u8 (48 + (n : Int) % 10)] 5)))
      clear h IH
      go_enter Tryz.func144, Tryz.ntmps144
      go_wp2_with fail
      rw [show ((n : Int) / 10) = ((n / 10 : Nat) : Int) by omega]
      refine HI.out.mono ?_
      rintro e w1 ⟨o, rfl, ho, hb⟩
      have hol : o.size + 1 ≤ 9223372036854775807 := by
        have := congrArg List.length ho
        simp only [Array.length_toList] at this
        have h2 : o.data.size = o.size := rfl
        omega
      have HO := Lib.hid ho
      have HB := Lib.hid (ext_alloc hb)
      clear ho hb hcb
      go_wp2_with fail
      go_ret
      exact ⟨_, rfl, by rw [ba_app, HO.out, HR.out], HB.out⟩

set_option maxHeartbeats 400000 in
set_option maxRecDepth 100000 in
theorem ref_Decimal (x : Int) (h0 : -1000000 ≤ x) (h1 : x ≤ 1000000) (w : World) : Calls Tryz.prog 144 #[.int .i64 x] w (DecPost (Lib.itoa x) w) := by
  by_cases h : x < 0
  · obtain ⟨n, hn⟩ := Int.eq_ofNat_of_zero_le (show 0 ≤ -x by omega)
    have HR := Lib.hid (show Lib.itoa x = 45 :: Lib.decDigits n by rw [Lib.itoa, if_pos h, show x.natAbs = n by omega])
    have hl := decDigits_le n (by omega)
    have HI := Lib.hid (ref_DecimalN n (by omega) w)
    rw [← hn] at HI
    clear hn
    go_enter Tryz.func144, Tryz.ntmps144
    go_wp2_with fail
    refine HI.out.mono ?_
    rintro e w1 ⟨o, rfl, ho, hb⟩
    have hol : 1 + o.size ≤ 9223372036854775807 := by
      have := congrArg List.length ho
      simp only [Array.length_toList] at this
      have h2 : o.data.size = o.size := rfl
      omega
    have HO := Lib.hid ho
    clear ho
    go_wp2_with fail
    go_ret
    exact ⟨_, rfl, by rw [ba_app, HO.out, HR.out]; rfl, hb⟩
  · obtain ⟨n, rfl⟩ := Int.eq_ofNat_of_zero_le (show 0 ≤ x by omega)
    rw [show Lib.itoa (n : Int) = Lib.decDigits n by rw [Lib.itoa, if_neg h, Int.toNat_natCast]]
    exact ref_DecimalN n (by omega) w
end Go.Proofs.YtimeilkelnljnaaGreatDoor

namespace Go.Proofs.YtimeilkelnljnaaGreatDoor
open Go.RowKit

theorem OwnRow.setOther {w : World} {b b' : Nat} {xs : List Value} (h : OwnRow w b xs) (hb : b' ≠ b) (o : Nat) (u : Value) : OwnRow (w.setCell ⟨b', o, none⟩ u) b xs := by
  intro j v hj
  have := h j v hj
  refine ⟨?_, by rw [World.frozen?_setCell]; exact this.2⟩
  rw [World.cell?_setCell_other (h := by intro e; apply hb; injection e with e1 _ _)]
  exact this.1
theorem OwnRow.drewN {w : World} {b : Nat} {xs : List Value} (h : OwnRow w b xs) (n : Nat) : OwnRow (w.drewN n) b xs := h

/-- the boxes of strip -/
structure StripSt (w wr : World) (neg : Bool) (s : ByteArray) (ex : Int) : Prop where
  p : OwnRow wr w.heap.size [.bool neg, .string s, .int .i64 ex]
  r : OwnRow wr (w.heap.size + 1) [.bool false, .string ⟨#[]⟩, .int .i64 0]
  b : Below w.heap.size w wr
theorem StripSt.drew {w wr : World} {neg : Bool} {s : ByteArray} {ex : Int} (h : StripSt w wr neg s ex) : StripSt w wr.drew neg s ex := ⟨h.p, h.r, h.b.drew⟩
theorem StripSt.set1 {w wr : World} {neg : Bool} {s s' : ByteArray} {ex : Int} (h : StripSt w wr neg s ex) : StripSt w (wr.setCell ⟨w.heap.size, 1, none⟩ (.string s')) neg s' ex :=
  ⟨h.p.set (j := 1) (by simp) _, h.r.setOther (by omega) _ _, h.b.setCell (Nat.le_refl _) _⟩
theorem StripSt.set2 {w wr : World} {neg : Bool} {s : ByteArray} {ex ex' : Int} (h : StripSt w wr neg s ex) : StripSt w (wr.setCell ⟨w.heap.size, 2, none⟩ (.int .i64 ex')) neg s ex' :=
  ⟨h.p.set (j := 2) (by simp) _, h.r.setOther (by omega) _ _, h.b.setCell (Nat.le_refl _) _⟩

def szAt (w : World) (b : Nat) : Nat := match w.cell? ⟨b, 1, none⟩ with | some (.string s) => s.size | _ => 0
theorem szAt_eq {w wr : World} {neg : Bool} {s : ByteArray} {ex : Int} (h : StripSt w wr neg s ex) : szAt wr w.heap.size = s.size := by unfold szAt; rw [h.p.cell (j := 1) rfl]

theorem ba_tail (s : ByteArray) (h : 0 < s.size) : s.data.toList = s[0] :: (s.extract 1 s.size).data.toList := by
  have h1 : s.data.toList.length = s.size := by simp
  have := List.drop_eq_getElem_cons (l := s.data.toList) (i := 0) (by omega)
  rw [List.drop_zero] at this
  rw [Lib.extract_data, List.take_of_length_le (by rw [List.length_drop]; omega)]
  exact this
theorem ba_last (s : ByteArray) (h : 0 < s.size) : s.data.toList = (s.extract 0 (s.size - 1)).data.toList ++ [s[s.size - 1]] := by
  have h1 : s.data.toList.length = s.size := by simp
  rw [Lib.extract_data, List.drop_zero, Nat.sub_zero]
  have := List.take_succ_eq_append_getElem (l := s.data.toList) (i := s.size - 1) (by omega)
  rw [Nat.sub_add_cancel h, List.take_of_length_le (by omega)] at this
  exact this
theorem ext1_size (s : ByteArray) (h : 0 < s.size) : (s.extract 1 s.size).size = s.size - 1 := by
  have h1 : s.data.toList.length = s.size := by simp
  have := congrArg List.length (ba_tail s h)
  simp only [List.length_cons] at this
  have h2 : (s.extract 1 s.size).data.toList.length = (s.extract 1 s.size).size := by simp
  omega
theorem ext0_size (s : ByteArray) (h : 0 < s.size) : (s.extract 0 (s.size - 1)).size = s.size - 1 := by
  have h1 : s.data.toList.length = s.size := by simp
  have := congrArg List.length (ba_last s h)
  simp only [List.length_append, List.length_singleton] at this
  have h2 : (s.extract 0 (s.size - 1)).data.toList.length = (s.extract 0 (s.size - 1)).size := by simp
  omega

/-- what strip returns -/
def stripR (neg : Bool) (d : List UInt8) (ex : Int) : Bool × List UInt8 × Int :=
  let d1 := d.dropWhile (· == 48)
  if trimR 48 d1 = [] then (false, [], 0) else (neg, trimR 48 d1, ex - ((d.length : Int) - d1.length))
def StripPost (r : Bool × List UInt8 × Int) (w : World) (e : Ending) (w' : World) : Prop := ∃ o : ByteArray, e = .returned (.agg #[.bool r.1, .string o, .int .i64 r.2.2]) ∧ o.data.toList = r.2.1 ∧ Below w.heap.size w w'

set_option maxHeartbeats 800000 in
set_option maxRecDepth 100000 in
theorem ref_strip (neg : Bool) (d : ByteArray) (ex : Int) (w : World) (hd : d.size ≤ 1000) (h0 : -1000000 ≤ ex) (h1 : ex ≤ 1000000) :
    Calls Tryz.prog 143 #[.agg #[.bool neg, .string d, .int .i64 ex]] w (StripPost (stripR neg d.data.toList ex) w) := by
  have hst : StripSt w ((w.alloc (.cells #[.bool neg, .string d, .int .i64 ex] 135)).alloc (.cells #[.bool false, .string ⟨#[]⟩, .int .i64 0] 135)) neg d ex := by
    refine ⟨?_, ?_, ((Below.refl _ _).alloc (Nat.le_refl _) _).alloc (by simp) _⟩
    · exact (OwnRow.fresh w #[.bool neg, .string d, .int .i64 ex] _).alloc (by simp) _
    · have h := OwnRow.fresh (w.alloc (.cells #[.bool neg, .string d, .int .i64 ex] 135)) #[.bool false, .string ⟨#[]⟩, .int .i64 0] 135
      simp only [World.size_alloc] at h
      exact h
  have HST := Lib.hid hst
  clear hst
  go_enter Tryz.func143, Tryz.ntmps143
  go_wp2_with fail
  go_loopw [3] (fun _ wr => ∃ (s : ByteArray) (x : Int), StripSt w wr neg s x ∧ s.data.toList.dropWhile (· == 48) = d.data.toList.dropWhile (· == 48) ∧ x - s.size = ex - d.size ∧ s.size ≤ d.size) (fun _ wr => szAt wr w.heap.size)
  case atStart => exact ⟨d, ex, HST.out, rfl, rfl, Nat.le_refl _⟩
  case round =>
    obtain ⟨s, x, hs, hdw, hx, hsd⟩ := hrel
    have HS := Lib.hid hs
    have HDW := Lib.hid hdw
    have HX := Lib.hid hx
    have hxl : -1001000 ≤ x ∧ x ≤ 1001000 := by omega
    obtain ⟨hx0, hx1⟩ := hxl
    have c0 := hs.p.cell (j := 0) rfl
    have c1 := hs.p.cell (j := 1) rfl
    have c2 := hs.p.cell (j := 2) rfl
    have f1 := hs.p.free (j := 1) (by simp)
    have f2 := hs.p.free (j := 2) (by simp)
    clear hs hdw hx HST
    by_cases hpos : 0 < s.size
    · by_cases hz : s[0] = 48
      · have hzb : ((s[0].toNat : Int) == 48) = true := u8_eq_t (b := 48) hz
        have HZ := Lib.hid hz
        clear hz
        have HT := Lib.hid (ba_tail s hpos)
        have HSZ := Lib.hid (ext1_size s hpos)
        have hw : IntKind.i64.wrap (x - 1) = x - 1 := IntWalk.i64_in _ (by omega)
        go_wp2_with fail
        go_region
        all_goals
          go_wp2_with fail
          go_roundw
          case rel =>
            refine ⟨s.extract 1 s.size, x - 1, ?_, ?_, ?_, ?_⟩
            · exact HS.out.set1.set2.drew
            · rw [← HDW.out, HT.out, List.dropWhile_cons, if_pos (by rw [HZ.out]; rfl)]
            · rw [HSZ.out]; have := HX.out; omega
            · rw [HSZ.out]; omega
          case measure => rw [szAt_eq HS.out, szAt_eq HS.out.set1.set2.drew, HSZ.out]; omega
      · have hzb : ((s[0].toNat : Int) == 48) = false := u8_nl (n := 48) rfl hz
        have HZ := Lib.hid hz
        have HD := Lib.hid (show d.data.toList.dropWhile (· == 48) = s.data.toList by
          rw [← HDW.out, ba_tail s hpos, List.dropWhile_cons, if_neg (by simpa using hz)])
        have hw : IntKind.i64.wrap ((s.size : Int) - 1) = (s.size : Int) - 1 := IntWalk.i64_in _ (by omega)
        clear hz
        go_wp2_with fail
        go_loopw [21] (fun _ wr => ∃ (s2 : ByteArray) (tl : List UInt8), StripSt w wr neg s2 x ∧ trimR 48 s2.data.toList = trimR 48 s.data.toList ∧ s.data.toList = s2.data.toList ++ tl ∧ 0 < s2.size ∧ s2.size ≤ s.size) (fun _ wr => szAt wr w.heap.size)
        case atStart => exact ⟨s, [], HS.out, rfl, by simp, hpos, Nat.le_refl _⟩
        case round =>
          obtain ⟨s2, tl, hs2, htr, hap, hpos2, hsz2⟩ := hrel
          have HS2 := Lib.hid hs2
          have HTR := Lib.hid htr
          have HAP := Lib.hid hap
          have d0 := hs2.p.cell (j := 0) rfl
          have d1 := hs2.p.cell (j := 1) rfl
          have d2 := hs2.p.cell (j := 2) rfl
          have f1 := hs2.p.free (j := 1) (by simp)
          have r0 := hs2.r.cell (j := 0) rfl
          have r1 := hs2.r.cell (j := 1) rfl
          have r2 := hs2.r.cell (j := 2) rfl
          have q0 := hs2.r.free (j := 0) (by simp)
          have q1 := hs2.r.free (j := 1) (by simp)
          have q2 := hs2.r.free (j := 2) (by simp)
          have HLAST := Lib.hid (ba_last s2 hpos2)
          have hw2 : IntKind.i64.wrap ((s2.size : Int) - 1) = (s2.size : Int) - 1 := IntWalk.i64_in _ (by omega)
          have hi0 : (0 : Int) ≤ (s2.size : Int) - 1 := by omega
          have hi1 : ((s2.size : Int) - 1).toNat = s2.size - 1 := by omega
          clear hs2 htr hap
          by_cases hl : s2[s2.size - 1] = 48
          · have hlb : ((s2[s2.size - 1].toNat : Int) == 48) = true := u8_eq_t (b := 48) hl
            have HSZ2 := Lib.hid (ext0_size s2 hpos2)
            have HL := Lib.hid hl
            clear hl
            go_wp2_with fail
            have hpos3 : 0 < s2.size - 1 := by
              rcases Nat.lt_or_ge 1 s2.size with h | h
              · omega
              · exfalso
                have e1 := ba_tail s hpos
                rw [HAP.out, HLAST.out] at e1
                have e2 : (s2.extract 0 (s2.size - 1)).data.toList = [] := List.length_eq_zero_iff.1 (by
                  have : (s2.extract 0 (s2.size - 1)).data.toList.length = (s2.extract 0 (s2.size - 1)).size := by simp
                  rw [this, HSZ2.out]; omega)
                rw [e2, HL.out] at e1
                simp only [List.nil_append, List.singleton_append, List.cons.injEq] at e1
                exact HZ.out e1.1.symm
            go_wp2_with fail
            refine ⟨⟨s2.extract 0 (s2.size - 1), [s2[s2.size - 1]] ++ tl, HS2.out.set1, ?_, ?_, ?_, ?_⟩, ?_⟩
            · rw [← HTR.out, HLAST.out, trimR_snoc, if_pos HL.out]
            · rw [← List.append_assoc, ← HLAST.out]; exact HAP.out
            · rw [HSZ2.out]; exact hpos3
            · rw [HSZ2.out]; omega
            · rw [szAt_eq HS2.out, szAt_eq HS2.out.set1, HSZ2.out]; omega
          · have hlb : ((s2[s2.size - 1].toNat : Int) == 48) = false := u8_nl (n := 48) rfl hl
            have hne := toList_ne s2 (by omega)
            have HR := Lib.hid (show stripR neg d.data.toList ex = (neg, s2.data.toList, x) by
              have e1 : trimR 48 s.data.toList = s2.data.toList := by
                rw [← HTR.out, HLAST.out, trimR_snoc, if_neg hl]
              unfold stripR
              simp only
              rw [HD.out, e1, if_neg (by intro h; rw [h] at HLAST; have := HLAST.out; simp at this)]
              have h2 : s.data.toList.length = s.size := by simp
              have h3 : d.data.toList.length = d.size := by simp
              have := HX.out
              rw [h2, h3]
              congr 2
              omega)
            clear hl
            go_wp2_with fail
            obtain ⟨e0, e1, e2⟩ := set3 r0 r1 r2 (.bool neg) (.string s2) (.int .i64 x)
            refine bodyPost_ret (v := .agg #[.bool neg, .string s2, .int .i64 x]) (by simp [results, Tryz.results143, go_sem, e0, e1, e2]) rfl ?_
            rw [HR.out]
            exact ⟨s2, rfl, rfl, ((HS2.out.b.setCell (Nat.le_succ _) _).setCell (Nat.le_succ _) _).setCell (Nat.le_succ _) _⟩
    · have HE := Lib.hid (show s.data.toList = [] from List.length_eq_zero_iff.1 (by
        have : s.data.toList.length = s.size := by simp
        omega))
      have HSZ0 := Lib.hid (show s.size = 0 by omega)
      have r0 := HS.out.r.cell (j := 0) rfl
      have r1 := HS.out.r.cell (j := 1) rfl
      have r2 := HS.out.r.cell (j := 2) rfl
      have q0 := HS.out.r.free (j := 0) (by simp)
      have q1 := HS.out.r.free (j := 1) (by simp)
      have q2 := HS.out.r.free (j := 2) (by simp)
      have he : s.toList.isEmpty = true := by rw [ByteArray.toList_eq, HE.out]; rfl
      have HR := Lib.hid (show stripR neg d.data.toList ex = (false, [], 0) by
        unfold stripR
        simp only
        rw [← HDW.out, HE.out, List.dropWhile_nil, if_pos (trimR_nil 48)])
      have hsz : s.size ≤ 0 := by omega
      go_wp2_with fail
      refine wp_loop_rounds 1 ?_
      rw [rounds_succ]
      go_wp2_with fail
      obtain ⟨e0, e1, e2⟩ := set3 r0 r1 r2 (.bool false) (.string ⟨#[]⟩) (.int .i64 0)
      refine bodyPost_ret (v := .agg #[.bool false, .string ⟨#[]⟩, .int .i64 0]) (by simp [results, Tryz.results143, go_sem, e0, e1, e2]) rfl ?_
      rw [HR.out]
      exact ⟨⟨#[]⟩, rfl, rfl, ((HS.out.b.setCell (Nat.le_succ _) _).setCell (Nat.le_succ _) _).setCell (Nat.le_succ _) _⟩
end Go.Proofs.YtimeilkelnljnaaGreatDoor

namespace Go.Proofs.YtimeilkelnljnaaGreatDoor
open Go.RowKit

/-- the canonical text of parts without zeros at the ends -/
def textR (n : Bool × List UInt8 × Int) : List UInt8 × Int :=
  if n.2.1 = [] then ([48], 0) else
  if 17 < n.2.1.length ∨ n.2.2 < -400 ∨ 400 < n.2.2 then ([], 9) else
  ((if n.1 then [45] else []) ++ (n.2.1.take 1 ++ ((if 1 < n.2.1.length then [46] ++ n.2.1.drop 1 else []) ++ ([101] ++ Lib.itoa n.2.2))), 0)
def TextPost (r : List UInt8 × Int) (w : World) (e : Ending) (w' : World) : Prop := ∃ o : ByteArray, e = .returned (.tuple #[.string o, .int .i64 r.2]) ∧ o.data.toList = r.1 ∧ Below w.heap.size w w'

theorem below_box3 {w W : World} (h : Below w.heap.size w W) (p q r : Value) : Below w.heap.size w (((W.setCell ⟨w.heap.size, 0, none⟩ p).setCell ⟨w.heap.size, 1, none⟩ q).setCell ⟨w.heap.size, 2, none⟩ r) :=
  ((h.setCell (Nat.le_refl _) _).setCell (Nat.le_refl _) _).setCell (Nat.le_refl _) _
theorem ba_len (o : ByteArray) : o.data.toList.length = o.size := by simp

set_option maxHeartbeats 800000 in
set_option maxRecDepth 100000 in
theorem ref_Text (neg : Bool) (d : ByteArray) (ex : Int) (w : World) (hd : d.size ≤ 1000) (h0 : -1000000 ≤ ex) (h1 : ex ≤ 1000000) :
    Calls Tryz.prog 129 #[.agg #[.bool neg, .string d, .int .i64 ex]] w (TextPost (textR (stripR neg d.data.toList ex)) w) := by
  have HC := Lib.hid (fun W => ref_strip neg d ex W hd h0 h1)
  generalize stripR neg d.data.toList ex = r at HC ⊢
  obtain ⟨b, l, x⟩ := r
  go_enter Tryz.func129, Tryz.ntmps129
  go_wp2_with fail
  refine (HC.out _).mono ?_
  rintro e w1 ⟨o, rfl, ho, hb⟩
  dsimp only at ho ⊢
  obtain ⟨c0, c1, c2⟩ := box3 hb
  obtain ⟨f0, f1, f2⟩ := box3f hb
  obtain ⟨k0, k1, k2⟩ := set3 c0 c1 c2 (.bool b) (.string o) (.int .i64 x)
  have HB := Lib.hid (below_box3 (ext_alloc hb) (.bool b) (.string o) (.int .i64 x))
  have HO := Lib.hid ho
  have hol : l.length = o.size := by rw [← ho, ba_len]
  clear hb ho
  by_cases hz : o.size = 0
  · have he : o.toList.isEmpty = true := by
      have : l = [] := List.length_eq_zero_iff.1 (by omega)
      rw [ByteArray.toList_eq, HO.out, this]; rfl
    have HR := Lib.hid (show textR (b, l, x) = ([48], 0) by
      have : l = [] := List.length_eq_zero_iff.1 (by omega)
      simp [textR, this])
    clear hol hz
    go_wp2_with fail
    go_ret2
    rw [HR.out]
    exact ⟨_, rfl, rfl, HB.out⟩
  have hne := toList_ne o hz
  have hln : l ≠ [] := fun h => hz (by rw [← hol, h]; rfl)
  have hpos : 0 < o.size := by omega
  by_cases hbig : 17 < o.size ∨ x < -400 ∨ 400 < x
  · have HR := Lib.hid (show textR (b, l, x) = ([], 9) by
      unfold textR; rw [if_neg hln, if_pos (by rw [hol]; exact hbig)])
    clear hol hln
    by_cases g1 : 17 < o.size
    · clear hbig
      go_wp2_with fail
      go_ret2
      rw [HR.out]
      exact ⟨_, rfl, rfl, HB.out⟩
    · have g1' : o.size ≤ 17 := by omega
      by_cases g2 : x < -400
      · clear hbig g1
        go_wp2_with fail
        go_ret2
        rw [HR.out]
        exact ⟨_, rfl, rfl, HB.out⟩
      · have g2' : -400 ≤ x := by omega
        have g3 : 400 < x := by omega
        clear hbig g1 g2
        go_wp2_with fail
        go_ret2
        rw [HR.out]
        exact ⟨_, rfl, rfl, HB.out⟩
  · have HR := Lib.hid (show textR (b, l, x) = ((if b then [45] else []) ++ (l.take 1 ++ ((if 1 < l.length then [46] ++ l.drop 1 else []) ++ ([101] ++ Lib.itoa x))), 0) by
      unfold textR; rw [if_neg hln, if_neg (by rw [hol]; exact hbig)])
    obtain ⟨g1, g2, g3⟩ : o.size ≤ 17 ∧ -400 ≤ x ∧ x ≤ 400 := by omega
    have HOL := Lib.hid hol
    have hil := Lib.itoa_length_le x (by omega) (by omega)
    clear hbig hol hln hz
    have E1 := Lib.hid (show (o.extract 0 1).data.toList = l.take 1 by rw [Lib.extract_data, HO.out]; rfl)
    have E2 := Lib.hid (show (o.extract 1 o.size).data.toList = l.drop 1 by
      rw [Lib.extract_data, HO.out, List.take_of_length_le (by rw [List.length_drop]; have := HOL.out; omega)])
    by_cases g4 : 1 < o.size
    · have G4 := Lib.hid (show (1 < l.length) = True by rw [HOL.out]; simpa using g4)
      cases b
      · go_wp2_with fail
        refine (ref_Decimal x (by omega) (by omega) _).mono ?_
        rintro e w2 ⟨o2, rfl, ho2, hb2⟩
        have hl2 : o2.size ≤ 21 := by rw [← ba_len, ho2]; exact hil
        have HO2 := Lib.hid ho2
        have HB2 := Lib.hid (HB.out.trans (hb2.mono HB.out.size))
        clear ho2 hb2
        go_wp2_with fail
        go_ret2
        rw [HR.out]
        refine ⟨_, rfl, ?_, HB2.out⟩
        simp only [ba_app, HO2.out, E1.out, E2.out, Bool.false_eq_true, if_true, if_false, G4.out]
        simp
      · go_wp2_with fail
        refine (ref_Decimal x (by omega) (by omega) _).mono ?_
        rintro e w2 ⟨o2, rfl, ho2, hb2⟩
        have hl2 : o2.size ≤ 21 := by rw [← ba_len, ho2]; exact hil
        have HO2 := Lib.hid ho2
        have HB2 := Lib.hid (HB.out.trans (hb2.mono HB.out.size))
        clear ho2 hb2
        go_wp2_with fail
        go_ret2
        rw [HR.out]
        refine ⟨_, rfl, ?_, HB2.out⟩
        simp only [ba_app, HO2.out, E1.out, E2.out, if_true, G4.out]
        simp
    · have G4 := Lib.hid (show (1 < l.length) = False by rw [HOL.out]; simpa using g4)
      cases b
      · go_wp2_with fail
        refine (ref_Decimal x (by omega) (by omega) _).mono ?_
        rintro e w2 ⟨o2, rfl, ho2, hb2⟩
        have hl2 : o2.size ≤ 21 := by rw [← ba_len, ho2]; exact hil
        have HO2 := Lib.hid ho2
        have HB2 := Lib.hid (HB.out.trans (hb2.mono HB.out.size))
        clear ho2 hb2
        go_wp2_with fail
        go_ret2
        rw [HR.out]
        refine ⟨_, rfl, ?_, HB2.out⟩
        simp only [ba_app, HO2.out, E1.out, Bool.false_eq_true, if_false, G4.out]
        simp
      · go_wp2_with fail
        refine (ref_Decimal x (by omega) (by omega) _).mono ?_
        rintro e w2 ⟨o2, rfl, ho2, hb2⟩
        have hl2 : o2.size ≤ 21 := by rw [← ba_len, ho2]; exact hil
        have HO2 := Lib.hid ho2
        have HB2 := Lib.hid (HB.out.trans (hb2.mono HB.out.size))
        clear ho2 hb2
        go_wp2_with fail
        go_ret2
        rw [HR.out]
        refine ⟨_, rfl, ?_, HB2.out⟩
        simp only [ba_app, HO2.out, E1.out, if_true, if_false, G4.out]
        simp
end Go.Proofs.YtimeilkelnljnaaGreatDoor

namespace Go.Proofs.YtimeilkelnljnaaGreatDoor
open Go.RowKit

def refExp (l : List UInt8) : Int := l.foldl (fun e c => min (10 * e + ((c.toNat : Int) - 48)) 100000) 0
theorem refExp_snoc (l : List UInt8) (c : UInt8) : refExp (l ++ [c]) = min (10 * refExp l + ((c.toNat : Int) - 48)) 100000 := by simp [refExp, List.foldl_append]
def expS' (s : ByteArray) (k : Nat) : Option (Int × Nat) :=
  if oneHit [101, 69] s k = true then
    (let p := expAt s (k + 1)
     if digRun s p.2 = 0 then none else some ((if p.1 = true then -(refExp (subL s p.2 (digRun s p.2))) else refExp (subL s p.2 (digRun s p.2))), p.2 + digRun s p.2))
  else some (0, k)
/-- wavestoreref03.Read -/
def readS (s : ByteArray) : Option (Bool × List UInt8 × Int) :=
  if 64 < s.size then none else
  let p := signS s
  let n := digRun s p.2
  if n = 0 then none else
  match fracS s (p.2 + n) (subL s p.2 n) with
  | none => none
  | some (ds, _, k) =>
    match expS' s k with
    | none => none
    | some (e, k') => if k' = s.size then some (p.1, ds, (n : Int) - 1 + e) else none
end Go.Proofs.YtimeilkelnljnaaGreatDoor
