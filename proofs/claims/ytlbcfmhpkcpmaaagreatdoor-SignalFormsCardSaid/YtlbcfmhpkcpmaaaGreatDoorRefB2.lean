import Derived.Test.YtlbcfmhpkcpmaaaGreatDoorRefB
import Derived.Test.YtlbcfmhpkcpmaaaGreatDoorBits4
namespace Go.Proofs.YtlbcfmhpkcpmaaaGreatDoor
open Go.RowKit

def strLen : Value → Nat | .string s => s.size | _ => 0
theorem ba_app (a b : ByteArray) : (a ++ b).data.toList = a.data.toList ++ b.data.toList := by simp
theorem rep_snoc (c : UInt8) (o : ByteArray) (h : o.data.toList = List.replicate o.size c) : (o ++ (⟨#[c]⟩ : ByteArray)).data.toList = List.replicate (o ++ (⟨#[c]⟩ : ByteArray)).size c := by
  rw [ba_app, h, ByteArray.size_append]
  show _ = List.replicate (o.size + 1) c
  rw [List.replicate_succ']

set_option maxHeartbeats 400000 in
set_option maxRecDepth 100000 in
theorem ref_All (n : Int) (c : UInt8) (w : World) :
    Calls Tryz.prog 78 #[.int .i64 n, .int .u8 c.toNat] w fun e w' => e = .returned (.string (allR n c)) ∧ Below w.heap.size w w' := by
  by_cases h1 : n < 1 ∨ 128 < n
  · have e : allR n c = ⟨#[]⟩ := by rw [allR, if_pos]; omega
    have E := Lib.hid e
    clear e
    rcases h1 with h1 | h1
    all_goals
      go_enter Tryz.func78, Tryz.ntmps78
      go_wp2_with fail
      go_ret
      exact ⟨ret_str E.out.symm, Below.refl _ _⟩
  obtain ⟨g1, g2⟩ : 1 ≤ n ∧ n ≤ 128 := by omega
  clear h1
  by_cases h2 : codeOf c = -1
  · have e : allR n c = ⟨#[]⟩ := by rw [allR, if_pos]; omega
    have E := Lib.hid e
    have h3 : (codeOf c != -1) = false := by simp [h2]
    clear e h2
    go_enter Tryz.func78, Tryz.ntmps78
    go_wp2_with fail
    refine (ref_lValid _ _).mono ?_
    rintro e w' ⟨rfl, rfl⟩
    go_wp2_with fail
    go_ret
    exact ⟨ret_str E.out.symm, Below.refl _ _⟩
  · have e : allR n c = ⟨(List.replicate n.toNat c).toArray⟩ := by rw [allR, if_neg]; omega
    have E := Lib.hid e
    have h3 : (codeOf c != -1) = true := by simp [h2]
    clear e h2
    go_enter Tryz.func78, Tryz.ntmps78
    go_wp2_with fail
    refine (ref_lValid _ _).mono ?_
    rintro e w' ⟨rfl, rfl⟩
    go_wp2_with fail
    go_loopw [5] (fun o_ wr => ∃ o : ByteArray, o_ = .string o ∧ o.data.toList = List.replicate o.size c ∧ (o.size : Int) ≤ n ∧ Below w.heap.size w wr) (fun o_ _ => n.toNat - strLen o_)
    case atStart => exact ⟨⟨#[]⟩, rfl, rfl, by simp [ByteArray.size]; omega, Below.refl _ _⟩
    case round =>
      obtain ⟨o, rfl, ho, hl, hb⟩ := hrel
      have HO := Lib.hid ho
      clear ho
      have hcb := one_byte Tryz.prog wr 96 9 5 c Tryz.underlying96 Tryz.underlying5 Tryz.underlying9
      by_cases hlt : (o.size : Int) < n
      · have hsz : (o ++ (⟨#[c]⟩ : ByteArray)).size = o.size + 1 := by rw [ByteArray.size_append]; rfl
        have HSZ := Lib.hid hsz
        clear hsz
        go_wp2_with fail
        go_roundw
        case rel => exact ⟨o ++ (⟨#[c]⟩ : ByteArray), rfl, rep_snoc c o HO.out, by rw [HSZ.out]; omega, hb.alloc hb.size _⟩
        case measure => show n.toNat - (o ++ (⟨#[c]⟩ : ByteArray)).size < n.toNat - o.size; rw [HSZ.out]; omega
      · go_wp2_with fail
        go_ret
        refine ⟨ret_str ?_, hb⟩
        rw [E.out]
        apply ba_eq
        rw [HO.out, show o.size = n.toNat by omega]

theorem map_snoc (g : UInt8 → UInt8) (s : ByteArray) (k : Nat) (h : k < s.size) (o : ByteArray) (ho : o.data.toList = (s.data.toList.take k).map g) : (o ++ (⟨#[g s[k]]⟩ : ByteArray)).data.toList = (s.data.toList.take (k + 1)).map g := by
  rw [ba_app, ho, take_snoc s k h, List.map_append]
  rfl

set_option maxHeartbeats 400000 in
set_option maxRecDepth 100000 in
theorem ref_Inverse (s : ByteArray) (w : World) (hs : s.size ≤ maxLen) :
    Calls Tryz.prog 67 #[.string s] w fun e w' => e = .returned (.string (bvInv s)) ∧ Below w.heap.size w w' := by
  unfold maxLen at hs
  cases h : bvIs s
  · have E := Lib.hid (show bvInv s = ⟨#[]⟩ by simp [bvInv, h])
    go_enter Tryz.func67, Tryz.ntmps67
    go_wp2_with fail
    refine (ref_IsValue _ _ (by unfold maxLen; omega)).mono ?_
    rintro e w1 ⟨rfl, hb⟩
    rw [h]
    clear h
    go_wp2_with fail
    go_ret
    exact ⟨ret_str E.out.symm, hb⟩
  · have E := Lib.hid (show bvInv s = ⟨(s.data.toList.map invB).toArray⟩ by simp [bvInv, h])
    go_enter Tryz.func67, Tryz.ntmps67
    go_wp2_with fail
    refine (ref_IsValue _ _ (by unfold maxLen; omega)).mono ?_
    rintro e w1 ⟨rfl, hb⟩
    rw [h]
    clear h
    go_wp2_with fail
    go_loopw [3, 4] (fun o_ i wr => ∃ (o : ByteArray) (k : Nat), o_ = .string o ∧ i = .int .i64 k ∧ k ≤ s.size ∧ o.data.toList = (s.data.toList.take k).map invB ∧ Below w.heap.size w wr) (fun _ i _ => s.size - (intOf i).toNat)
    case atStart => exact ⟨⟨#[]⟩, 0, rfl, rfl, Nat.zero_le _, rfl, hb⟩
    case round =>
      obtain ⟨o, k, rfl, rfl, hk, ho, hb⟩ := hrel
      have HO := Lib.hid ho
      clear ho
      by_cases hlt : k < s.size
      · have hcb := one_byte Tryz.prog wr 96 9 5 (invB s[k]) Tryz.underlying96 Tryz.underlying5 Tryz.underlying9
        have HN := Lib.hid (map_snoc invB s k hlt o HO.out)
        have hob : o.size + 1 ≤ 9223372036854775807 := by have := congrArg List.length HO.out; simp at this; omega
        go_wp2_with fail
        refine (ref_lInverse _ _).mono ?_
        rintro e w' ⟨rfl, rfl⟩
        go_wp2_with fail
        go_roundw
        case rel => exact ⟨o ++ (⟨#[invB s[k]]⟩ : ByteArray), k + 1, rfl, by go_num, by omega, HN.out, hb.alloc hb.size _⟩
        case measure => simp [intOf]; omega
      · have HE := Lib.hid (show o.data.toList = s.data.toList.map invB by have := HO.out; rwa [List.take_of_length_le (by simp; omega)] at this)
        go_wp2_with fail
        go_ret
        refine ⟨ret_str ?_, hb⟩
        rw [E.out]
        exact ba_eq _ _ HE.out

set_option maxHeartbeats 400000 in
theorem ref_Slice (s : ByteArray) (low n : Int) (w : World) (hs : s.size ≤ maxLen) :
    Calls Tryz.prog 66 #[.string s, .int .i64 low, .int .i64 n] w fun e w' => e = .returned (.tuple #[.string (slR s low n).1, .int .i64 (slR s low n).2]) ∧ Below w.heap.size w w' := by
  cases h : bvIs s
  · have e : slR s low n = (⟨#[]⟩, 1) := by simp [slR, h]
    have E := Lib.hid e
    clear e
    go_enter Tryz.func66, Tryz.ntmps66
    go_wp2_with fail
    refine (ref_IsValue _ _ hs).mono ?_
    rintro e w1 ⟨rfl, hb⟩
    rw [h]
    go_wp2_with fail
    go_ret2
    exact ⟨ret_str_int E.out.symm, hb⟩
  by_cases hc : low < 0 ∨ n < 1 ∨ (s.size : Int) < n ∨ (s.size : Int) - n < low
  · have e : slR s low n = (⟨#[]⟩, 2) := by rw [slR, if_neg (by simp [h]), if_pos hc]
    have E := Lib.hid e
    clear e
    unfold maxLen at hs
    by_cases hc1 : low < 0 ∨ (s.size : Int) < low
    · clear hc
      rcases hc1 with hc1 | hc1
      all_goals
        go_enter Tryz.func66, Tryz.ntmps66
        go_wp2_with fail
        refine (ref_IsValue _ _ hs).mono ?_
        rintro e w1 ⟨rfl, hb⟩
        rw [h]
        clear h
        go_wp2_with fail
        go_ret2
        exact ⟨ret_str_int E.out.symm, hb⟩
    · obtain ⟨g1, g2⟩ : 0 ≤ low ∧ low ≤ (s.size : Int) := by omega
      by_cases hc2 : n < 1
      · clear hc hc1
        go_enter Tryz.func66, Tryz.ntmps66
        go_wp2_with fail
        refine (ref_IsValue _ _ hs).mono ?_
        rintro e w1 ⟨rfl, hb⟩
        rw [h]
        clear h
        go_wp2_with fail
        go_ret2
        exact ⟨ret_str_int E.out.symm, hb⟩
      · have g3 : (s.size : Int) - low < n := by omega
        have g4 : 1 ≤ n := by omega
        clear hc hc1 hc2
        go_enter Tryz.func66, Tryz.ntmps66
        go_wp2_with fail
        refine (ref_IsValue _ _ hs).mono ?_
        rintro e w1 ⟨rfl, hb⟩
        rw [h]
        clear h
        go_wp2_with fail
        go_ret2
        exact ⟨ret_str_int E.out.symm, hb⟩
  · have e : slR s low n = (s.extract (s.size - low.toNat - n.toNat) (s.size - low.toNat), 0) := by rw [slR, if_neg (by simp [h]), if_neg hc]
    have E := Lib.hid e
    clear e
    unfold maxLen at hs
    obtain ⟨g1, g2, g3, g4⟩ : 0 ≤ low ∧ 1 ≤ n ∧ n ≤ (s.size : Int) ∧ low ≤ (s.size : Int) - n := by omega
    have g5 : n ≤ (s.size : Int) - low := by omega
    have g6 : low ≤ (s.size : Int) := by omega
    clear hc
    go_enter Tryz.func66, Tryz.ntmps66
    go_wp2_with fail
    refine (ref_IsValue _ _ hs).mono ?_
    rintro e w1 ⟨rfl, hb⟩
    rw [h]
    clear h
    go_wp2_with fail
    go_ret2
    refine ⟨ret_str_int (E.out.trans ?_).symm, hb⟩
    rw [show ((s.size : Int) - low - n).toNat = s.size - low.toNat - n.toNat by omega, show ((s.size : Int) - low).toNat = s.size - low.toNat by omega]
end Go.Proofs.YtlbcfmhpkcpmaaaGreatDoor
