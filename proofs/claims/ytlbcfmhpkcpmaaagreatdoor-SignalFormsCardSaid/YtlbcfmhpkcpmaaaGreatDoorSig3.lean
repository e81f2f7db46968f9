import Derived.Test.YtlbcfmhpkcpmaaaGreatDoorSig2
import Derived.Deep.RegionHeld3
namespace Go.Proofs.YtlbcfmhpkcpmaaaGreatDoor
open Go.RowKit

set_option maxHeartbeats 400000 in
theorem sig_first (k n : Int) (v : Value) (l : List Ch) (t : Int) (w : World) (hs : SlR w v l.length (chs l)) (hl : l.length ≤ 1000000) (hst : Sorted l) :
    Calls Tryz.prog 57 #[.agg #[.int .i64 k, .int .i64 n, v], .int .i64 t] w fun e w' => e = .returned (.int .i64 (lo l t)) ∧ Below w.heap.size w w' := by
  obtain ⟨a, cap, rfl, hc, hm⟩ := hs.shape
  have HB := Lib.hid (bin_search _ l t _ (hs.below ((Below.refl _ w).alloc (Nat.le_refl _) (.cells #[.int .i64 k, .int .i64 n, .slice a l.length cap] 24))) hl hst)
  clear hs hst
  go_enter Tryz.func57, Tryz.ntmps57
  go_wp2_with fail
  refine HB.out.mono ?_
  rintro e w1 ⟨⟨b, rfl⟩, hb⟩
  go_wp2_with fail
  go_ret
  exact ⟨rfl, ext_alloc hb⟩

def valAt (k n : Int) (l : List Ch) (t : Int) : ByteArray := if k = 3 then vi k n else match lo l (t + 1) with | 0 => vi k n | j + 1 => (l.getD j (0, ⟨#[]⟩)).2

set_option maxHeartbeats 400000 in
set_option maxRecDepth 100000 in
theorem sig_at (k n : Int) (v : Value) (l : List Ch) (t : Int) (w : World) (hs : SlR w v l.length (chs l)) (hl : l.length ≤ 1000000) (hst : Sorted l) (ht0 : -1000000000000000 ≤ t) (ht1 : t ≤ 1000000000000000) :
    Calls Tryz.prog 54 #[.agg #[.int .i64 k, .int .i64 n, v], .int .i64 t] w fun e w' => e = .returned (.string (valAt k n l t)) ∧ Below w.heap.size w w' := by
  obtain ⟨a, cap, rfl, hc, hm⟩ := hs.shape
  unfold maxLen at hm
  have hbw : Below w.heap.size w (w.alloc (.cells #[.int .i64 k, .int .i64 n, .slice a l.length cap] 24)) := (Below.refl _ w).alloc (Nat.le_refl _) _
  have HF := Lib.hid (sig_first k n _ l (t + 1) _ (hs.below hbw) hl hst)
  have HS := Lib.hid hs
  have hlo := lo_le l (t + 1)
  clear hs hst hbw
  by_cases hk : k = 3
  · have HV := Lib.hid (show valAt k n l t = vi k n by unfold valAt; rw [if_pos hk])
    subst hk
    go_enter Tryz.func54, Tryz.ntmps54
    go_wp2_with fail
    refine HF.out.mono ?_
    rintro e w1 ⟨rfl, hb⟩
    obtain ⟨c0, c1, c2⟩ := box3 hb
    go_wp2_with fail
    refine (val_Initial _ _ _).mono ?_
    rintro e w2 ⟨rfl, hb2⟩
    go_wp2_with fail
    go_ret
    exact ⟨ret_str HV.out.symm, ext_trans (ext_alloc hb) hb2⟩
  have hk3 : (k == 3) = false := by rw [beq_eq_false_iff_ne]; exact hk
  cases hq : lo l (t + 1) with
  | zero =>
    have HV := Lib.hid (show valAt k n l t = vi k n by unfold valAt; rw [if_neg hk, hq])
    have HQ := Lib.hid hq
    clear hk hq
    go_enter Tryz.func54, Tryz.ntmps54
    go_wp2_with fail
    refine HF.out.mono ?_
    rintro e w1 ⟨rfl, hb⟩
    rw [HQ.out]
    obtain ⟨c0, c1, c2⟩ := box3 hb
    go_wp2_with fail
    refine (val_Initial _ _ _).mono ?_
    rintro e w2 ⟨rfl, hb2⟩
    go_wp2_with fail
    go_ret
    exact ⟨ret_str HV.out.symm, ext_trans (ext_alloc hb) hb2⟩
  | succ j =>
    have hj : j < l.length := by omega
    have HV := Lib.hid (show valAt k n l t = l[j].2 by
      unfold valAt
      rw [if_neg hk, hq]
      simp only [List.getD_eq_getElem?_getD, List.getElem?_eq_getElem hj, Option.getD_some])
    have HQ := Lib.hid hq
    clear hk hq
    have hne : (((j + 1 : Nat) : Int) == 0) = false := by rw [beq_eq_false_iff_ne]; omega
    go_enter Tryz.func54, Tryz.ntmps54
    go_wp2_with fail
    refine HF.out.mono ?_
    rintro e w1 ⟨rfl, hb⟩
    rw [HQ.out]
    obtain ⟨c0, c1, c2⟩ := box3 hb
    obtain ⟨b, o, rfl, d0, d1⟩ := (HS.out.below (ext_alloc hb)).ch hj
    generalize l[j] = c at d0 d1 HV
    go_wp2_with fail
    go_ret
    exact ⟨ret_str HV.out.symm, ext_alloc hb⟩

/-- the change with an index, if there is one -/
def chR (l : List Ch) (k : Int) : Ch × Int := if k < 0 then ((0, ⟨#[]⟩), 6) else match l[k.toNat]? with | none => ((0, ⟨#[]⟩), 6) | some c => (c, 0)
def ChPost (r : Ch × Int) (w : World) (e : Ending) (w' : World) : Prop := e = .returned (.tuple #[.agg #[.int .i64 r.1.1, .string r.1.2], .int .i64 r.2]) ∧ Below w.heap.size w w'

set_option maxHeartbeats 400000 in
set_option maxRecDepth 100000 in
theorem sig_change (k n : Int) (v : Value) (l : List Ch) (j : Int) (w : World) (hs : SlR w v l.length (chs l)) :
    Calls Tryz.prog 56 #[.agg #[.int .i64 k, .int .i64 n, v], .int .i64 j] w (ChPost (chR l j) w) := by
  obtain ⟨a, cap, rfl, hc, hm⟩ := hs.shape
  unfold maxLen at hm
  have HS := Lib.hid hs
  clear hs
  by_cases h0 : j < 0
  · have HR := Lib.hid (show chR l j = ((0, ⟨#[]⟩), 6) by unfold chR; rw [if_pos h0])
    go_enter Tryz.func56, Tryz.ntmps56
    go_wp2_with fail
    refine bodyPost_ret (v := .tuple #[.agg #[.int .i64 0, .string ⟨#[]⟩], .int .i64 6]) (by simp [results, Tryz.results56, go_sem]) rfl ⟨by rw [HR.out], ?_⟩
    exact ((Below.refl _ _).alloc (Nat.le_refl _) _).alloc (by simp) _
  obtain ⟨i, rfl⟩ := Int.eq_ofNat_of_zero_le (show 0 ≤ j by omega)
  clear h0
  by_cases h1 : i < l.length
  · have HR := Lib.hid (show chR l i = (l[i], 0) by unfold chR; rw [if_neg (by omega), Int.toNat_natCast, List.getElem?_eq_getElem h1])
    have hbw : Below w.heap.size w ((w.alloc (.cells #[.int .i64 k, .int .i64 n, .slice a l.length cap] 24)).alloc (.cells #[.int .i64 0, .string ⟨#[]⟩] 36)) := ((Below.refl _ _).alloc (Nat.le_refl _) _).alloc (by simp) _
    obtain ⟨b, o, rfl, d0, d1⟩ := (HS.out.below hbw).ch h1
    generalize l[i] = c at d0 d1 HR
    obtain ⟨t, s⟩ := c
    clear hbw
    go_enter Tryz.func56, Tryz.ntmps56
    go_wp2_with fail
    refine bodyPost_ret (v := .tuple #[.agg #[.int .i64 t, .string s], .int .i64 0]) (by simp [results, Tryz.results56, go_sem]) rfl ⟨by rw [HR.out], ?_⟩
    exact ((Below.refl _ _).alloc (Nat.le_refl _) _).alloc (by simp) _
  · have HR := Lib.hid (show chR l i = ((0, ⟨#[]⟩), 6) by unfold chR; rw [if_neg (by omega), Int.toNat_natCast, List.getElem?_eq_none (by omega)])
    have hd : decide (i < l.length) = false := by simpa using h1
    go_enter Tryz.func56, Tryz.ntmps56
    go_wp2_with fail
    refine bodyPost_ret (v := .tuple #[.agg #[.int .i64 0, .string ⟨#[]⟩], .int .i64 6]) (by simp [results, Tryz.results56, go_sem]) rfl ⟨by rw [HR.out], ?_⟩
    exact ((Below.refl _ _).alloc (Nat.le_refl _) _).alloc (by simp) _
end Go.Proofs.YtlbcfmhpkcpmaaaGreatDoor
