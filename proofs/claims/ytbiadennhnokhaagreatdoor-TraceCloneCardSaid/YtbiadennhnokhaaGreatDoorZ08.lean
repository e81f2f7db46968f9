import Derived.Test.YtbiadennhnokhaaGreatDoorZ06
import Derived.Test.YtbiadennhnokhaaGreatDoorZ07
namespace Go.Proofs.YtbiadennhnokhaaGreatDoor
open Go.RowKit

/-- are there signals of this kind and width -/
def vt (k n : Int) : Bool := (decide (k = 0) && decide (1 ≤ n) && decide (n ≤ 128)) || ((decide (k = 1) || decide (k = 2) || decide (k = 3)) && decide (n = 0))
def nilB (s : ByteArray) : Bool := decide (s.size = 0)
/-- is it a value of this kind and width -/
def vv (k n : Int) (s : ByteArray) : Bool :=
  vt k n && (if k = 0 then bvIs s && decide ((s.size : Int) = n) else if k = 1 then decOk s else if k = 2 then decide (s.size ≤ 64) else nilB s)
/-- the initial value -/
def vi (k n : Int) : ByteArray := if vt k n = true then (if k = 0 then allR n 120 else if k = 1 then ⟨#[48]⟩ else ⟨#[]⟩) else ⟨#[]⟩

/-- what a caller of 'of' needs -/
def OfAny (k n : Int) (w : World) (e : Ending) (w' : World) : Prop :=
  ∃ (C : Array Value), e = .returned (.tuple #[.agg C, .bool (vt k n)]) ∧ Below w.heap.size w w' ∧
    ((C = #[.int .i64 0, .int .i64 0, .nilFunc, .nilFunc, .nilFunc, .nilFunc, .string ⟨#[]⟩] ∧ vt k n = false) ∨ ∃ B, KindStr w' B ∧ ((k = 0 ∧ C = kd0 B) ∨ (k = 1 ∧ C = kd1 B) ∨ (k = 2 ∧ C = kd2 B) ∨ (k = 3 ∧ C = kd3 B)))

set_option maxHeartbeats 400000 in
set_option maxRecDepth 100000 in
theorem val_of_none (k n : Int) (w : World) (hk : k < 0 ∨ 3 < k) : Calls Tryz.prog 142 #[.int .i64 k, .int .i64 n] w (OfAny k n w) := by
  have hv : vt k n = false := by
    unfold vt
    rw [Bool.eq_false_iff]
    simp; omega
  have HV := Lib.hid hv
  clear hv
  rcases hk with hk | hk
  all_goals
    go_enter Tryz.func142, Tryz.ntmps142
    go_wp2_with fail
    refine (val_kinds' _).mono ?_
    rintro e w1 ⟨B, rfl, hB, hK, hc, hb⟩
    have f := fun i => (boxN hb i).2
    have f0 := f 0; have f1 := f 1; have f2 := f 2; have f3 := f 3; have f4 := f 4; have f5 := f 5; have f6 := f 6
    have g0 : w1.cell? ⟨w.heap.size, 0, none⟩ = some (.int .i64 0) := (boxN hb 0).1
    have g1 : w1.cell? ⟨w.heap.size, 1, none⟩ = some (.int .i64 0) := (boxN hb 1).1
    have g2 : w1.cell? ⟨w.heap.size, 2, none⟩ = some .nilFunc := (boxN hb 2).1
    have g3 : w1.cell? ⟨w.heap.size, 3, none⟩ = some .nilFunc := (boxN hb 3).1
    have g4 : w1.cell? ⟨w.heap.size, 4, none⟩ = some .nilFunc := (boxN hb 4).1
    have g5 : w1.cell? ⟨w.heap.size, 5, none⟩ = some .nilFunc := (boxN hb 5).1
    have g6 : w1.cell? ⟨w.heap.size, 6, none⟩ = some (.string ⟨#[]⟩) := (boxN hb 6).1
    have HB := Lib.hid (ext_alloc hb)
    clear hc f hb hK hB
    go_wp2_with fail
    refine bodyPost_ret (v := .tuple #[.agg #[.int .i64 0, .int .i64 0, .nilFunc, .nilFunc, .nilFunc, .nilFunc, .string ⟨#[]⟩], .bool false]) (by simp [results, Tryz.results142, go_sem, g0, g1, g2, g3, g4, g5, g6]) rfl ⟨_, by rw [HV.out], ?_, .inl ⟨rfl, HV.out⟩⟩
    have l : w.heap.size ≤ w.heap.size := Nat.le_refl _
    exact ((((((((HB.out.setCell l _).setCell l _).setCell l _).setCell l _).setCell l _).setCell l _).setCell l _))
theorem OfPost.any {kd : Nat → Array Value} {ok : Bool} {k n : Int} {w : World} {e : Ending} {w' : World} (h : OfPost kd ok w e w') (hok : ok = vt k n)
    (hk : ∀ B, (k = 0 ∧ kd B = kd0 B) ∨ (k = 1 ∧ kd B = kd1 B) ∨ (k = 2 ∧ kd B = kd2 B) ∨ (k = 3 ∧ kd B = kd3 B)) : OfAny k n w e w' := by
  obtain ⟨B, rfl, h1, h2⟩ := h
  exact ⟨_, by rw [hok], h2, .inr ⟨B, h1, hk B⟩⟩

theorem val_of_any (k n : Int) (w : World) : Calls Tryz.prog 142 #[.int .i64 k, .int .i64 n] w (OfAny k n w) := by
  by_cases hk : k < 0 ∨ 3 < k
  · exact val_of_none k n w hk
  have h4 : k = 0 ∨ k = 1 ∨ k = 2 ∨ k = 3 := by omega
  rcases h4 with rfl | rfl | rfl | rfl
  · by_cases h1 : n < 1
    · exact (val_of0_low n w h1).mono fun _ _ h => h.any (by simp [vt]; omega) (fun B => .inl ⟨rfl, rfl⟩)
    by_cases h2 : 128 < n
    · exact (val_of0_high n w h2).mono fun _ _ h => h.any (by simp [vt]; omega) (fun B => .inl ⟨rfl, rfl⟩)
    · exact (val_of0_yes n w (by omega) (by omega)).mono fun _ _ h => h.any (by simp [vt]; omega) (fun B => .inl ⟨rfl, rfl⟩)
  · by_cases h1 : n < 0
    · exact (val_of1_low n w h1).mono fun _ _ h => h.any (by simp [vt]; omega) (fun B => .inr (.inl ⟨rfl, rfl⟩))
    by_cases h2 : 0 < n
    · exact (val_of1_high n w h2).mono fun _ _ h => h.any (by simp [vt]; omega) (fun B => .inr (.inl ⟨rfl, rfl⟩))
    · obtain rfl : n = 0 := by omega
      exact (val_of1_yes w).mono fun _ _ h => h.any (by simp [vt]) (fun B => .inr (.inl ⟨rfl, rfl⟩))
  · by_cases h1 : n < 0
    · exact (val_of2_low n w h1).mono fun _ _ h => h.any (by simp [vt]; omega) (fun B => .inr (.inr (.inl ⟨rfl, rfl⟩)))
    by_cases h2 : 0 < n
    · exact (val_of2_high n w h2).mono fun _ _ h => h.any (by simp [vt]; omega) (fun B => .inr (.inr (.inl ⟨rfl, rfl⟩)))
    · obtain rfl : n = 0 := by omega
      exact (val_of2_yes w).mono fun _ _ h => h.any (by simp [vt]) (fun B => .inr (.inr (.inl ⟨rfl, rfl⟩)))
  · by_cases h1 : n < 0
    · exact (val_of3_low n w h1).mono fun _ _ h => h.any (by simp [vt]; omega) (fun B => .inr (.inr (.inr ⟨rfl, rfl⟩)))
    by_cases h2 : 0 < n
    · exact (val_of3_high n w h2).mono fun _ _ h => h.any (by simp [vt]; omega) (fun B => .inr (.inr (.inr ⟨rfl, rfl⟩)))
    · obtain rfl : n = 0 := by omega
      exact (val_of3_yes w).mono fun _ _ h => h.any (by simp [vt]) (fun B => .inr (.inr (.inr ⟨rfl, rfl⟩)))

set_option maxHeartbeats 400000 in
set_option maxRecDepth 100000 in
theorem val_ValidType (k n : Int) (w : World) :
    Calls Tryz.prog 82 #[.int .i64 k, .int .i64 n] w fun e w' => e = .returned (.bool (vt k n)) ∧ Below w.heap.size w w' := by
  go_enter Tryz.func82, Tryz.ntmps82
  go_wp2_with fail
  refine (val_of_any k n _).mono ?_
  rintro e w1 ⟨C, rfl, hb, hC⟩
  have HB := Lib.hid hb
  rcases hC with ⟨rfl, -⟩ | ⟨B, -, ⟨-, rfl⟩ | ⟨-, rfl⟩ | ⟨-, rfl⟩ | ⟨-, rfl⟩⟩
  all_goals
    clear hb
    try unfold kd0
    try unfold kd1
    try unfold kd2
    try unfold kd3
    go_wp2_with fail
    go_ret
    exact ⟨rfl, HB.out.alloc HB.out.size _⟩
end Go.Proofs.YtbiadennhnokhaaGreatDoor

namespace Go.Proofs.YtbiadennhnokhaaGreatDoor
open Go.RowKit

set_option maxHeartbeats 400000 in
theorem kinds1 (n : Int) (w : World) : Calls Tryz.prog 229 #[.int .i64 n] w fun e w' => e = .returned (.string (allR n 120)) ∧ Below w.heap.size w w' := by
  go_enter Tryz.func229, Tryz.ntmps229
  go_wp2_with fail
  refine (bits_All n 120 _).mono ?_
  rintro e w1 ⟨rfl, hb⟩
  go_wp2_with fail
  go_ret
  exact ⟨rfl, hb⟩
set_option maxHeartbeats 400000 in
theorem kinds2 (n : Int) (s : ByteArray) (w : World) (hg : Glob w) (hs : s.size ≤ maxLen) : Calls Tryz.prog 233 #[.int .i64 n, .string s] w fun e w' => e = .returned (.bool (decOk s)) ∧ Below w.heap.size w w' := by
  go_enter Tryz.func233, Tryz.ntmps233
  go_wp2_with fail
  refine (dec_Valid s _ hg hs).mono ?_
  rintro e w1 ⟨rfl, hb⟩
  go_wp2_with fail
  go_ret
  exact ⟨rfl, hb⟩
set_option maxHeartbeats 400000 in
theorem kinds5 (n : Int) (s : ByteArray) (w : World) (hs : s.size ≤ maxLen) : Calls Tryz.prog 239 #[.int .i64 n, .string s] w fun e w' => e = .returned (.bool (decide (s.size ≤ 64))) ∧ Below w.heap.size w w' := by
  unfold maxLen at hs
  go_enter Tryz.func239, Tryz.ntmps239
  go_wp2_with fail
  go_ret
  exact ⟨ret_bool (by rw [Bool.eq_iff_iff]; simp; omega), Below.refl _ _⟩
set_option maxHeartbeats 400000 in
theorem kinds7 (n : Int) (s : ByteArray) (w : World) : Calls Tryz.prog 243 #[.int .i64 n, .string s] w fun e w' => e = .returned (.bool (nilB s)) ∧ Below w.heap.size w w' := by
  by_cases h : s.size = 0
  · obtain rfl : s = ⟨#[]⟩ := by
      obtain ⟨a⟩ := s
      have : a = #[] := Array.eq_empty_of_size_eq_zero h
      rw [this]
    go_enter Tryz.func243, Tryz.ntmps243
    go_wp2_with fail
    go_ret
    exact ⟨rfl, Below.refl _ _⟩
  · have hE := toList_ne s h
    have H := Lib.hid h
    clear h
    go_enter Tryz.func243, Tryz.ntmps243
    go_wp2_with fail
    go_ret
    exact ⟨ret_bool (by unfold nilB; rw [eq_comm, decide_eq_false_iff_not]; exact H.out), Below.refl _ _⟩

theorem val_Valid (k n : Int) (s : ByteArray) (w : World) (hg : Glob w) (hs : s.size ≤ maxLen) :
    Calls Tryz.prog 83 #[.int .i64 k, .int .i64 n, .string s] w fun e w' => e = .returned (.bool (vv k n s)) ∧ Below w.heap.size w w' := by
  have HG := Lib.hid hg
  clear hg
  cases hv : vt k n
  · have hvv : vv k n s = false := by simp [vv, hv]
    have HVV := Lib.hid hvv
    clear hvv
    go_enter Tryz.func83, Tryz.ntmps83
    go_wp2_with fail
    refine (val_of_any k n _).mono ?_
    rintro e w1 ⟨C, rfl, hb, hC⟩
    have HB := Lib.hid hb
    rw [hv]
    rcases hC with ⟨rfl, -⟩ | ⟨B, -, ⟨-, rfl⟩ | ⟨-, rfl⟩ | ⟨-, rfl⟩ | ⟨-, rfl⟩⟩
    all_goals
      clear hb hv
      try unfold kd0
      try unfold kd1
      try unfold kd2
      try unfold kd3
      go_wp2_with fail
      go_ret
      exact ⟨ret_bool HVV.out.symm, HB.out.alloc HB.out.size _⟩
  · go_enter Tryz.func83, Tryz.ntmps83
    go_wp2_with fail
    refine (val_of_any k n _).mono ?_
    rintro e w1 ⟨C, rfl, hb, hC⟩
    have HB := Lib.hid hb
    rw [hv]
    rcases hC with ⟨-, h⟩ | ⟨B, hK, ⟨rfl, rfl⟩ | ⟨rfl, rfl⟩ | ⟨rfl, rfl⟩ | ⟨rfl, rfl⟩⟩
    · rw [hv] at h; cases h
    · have hvv : vv 0 n s = (bvIs s && decide ((s.size : Int) = n)) := by simp [vv, hv]
      have HVV := Lib.hid hvv
      clear hvv hb hv hK
      unfold kd0
      go_wp2_with fail
      refine (bits_Valid n s _ hs).mono ?_
      rintro e w2 ⟨rfl, hb2⟩
      go_wp2_with fail
      go_ret
      exact ⟨ret_bool HVV.out.symm, ext_trans HB.out (ext_alloc hb2)⟩
    · have hvv : vv 1 n s = decOk s := by simp [vv, hv]
      have HVV := Lib.hid hvv
      clear hvv hb hv hK
      unfold kd1
      go_wp2_with fail
      refine (kinds2 n s _ (HG.out.below (HB.out.alloc HB.out.size _)) hs).mono ?_
      rintro e w2 ⟨rfl, hb2⟩
      go_wp2_with fail
      go_ret
      exact ⟨ret_bool HVV.out.symm, ext_trans HB.out (ext_alloc hb2)⟩
    · have hvv : vv 2 n s = decide (s.size ≤ 64) := by simp [vv, hv]
      have HVV := Lib.hid hvv
      clear hvv hb hv hK
      unfold kd2
      go_wp2_with fail
      refine (kinds5 n s _ hs).mono ?_
      rintro e w2 ⟨rfl, hb2⟩
      go_wp2_with fail
      go_ret
      exact ⟨ret_bool HVV.out.symm, ext_trans HB.out (ext_alloc hb2)⟩
    · have hvv : vv 3 n s = nilB s := by simp [vv, hv]
      have HVV := Lib.hid hvv
      clear hvv hb hv hK
      unfold kd3
      go_wp2_with fail
      refine (kinds7 n s _).mono ?_
      rintro e w2 ⟨rfl, hb2⟩
      go_wp2_with fail
      go_ret
      exact ⟨ret_bool HVV.out.symm, ext_trans HB.out (ext_alloc hb2)⟩
theorem val_Initial (k n : Int) (w : World) :
    Calls Tryz.prog 109 #[.int .i64 k, .int .i64 n] w fun e w' => e = .returned (.string (vi k n)) ∧ Below w.heap.size w w' := by
  cases hv : vt k n
  · have hvv : vi k n = ⟨#[]⟩ := by simp [vi, hv]
    have HVV := Lib.hid hvv
    clear hvv
    go_enter Tryz.func109, Tryz.ntmps109
    go_wp2_with fail
    refine (val_of_any k n _).mono ?_
    rintro e w1 ⟨C, rfl, hb, hC⟩
    have HB := Lib.hid hb
    rw [hv]
    rcases hC with ⟨rfl, -⟩ | ⟨B, -, ⟨-, rfl⟩ | ⟨-, rfl⟩ | ⟨-, rfl⟩ | ⟨-, rfl⟩⟩
    all_goals
      clear hb hv
      try unfold kd0
      try unfold kd1
      try unfold kd2
      try unfold kd3
      go_wp2_with fail
      go_ret
      exact ⟨ret_str HVV.out.symm, HB.out.alloc HB.out.size _⟩
  · go_enter Tryz.func109, Tryz.ntmps109
    go_wp2_with fail
    refine (val_of_any k n _).mono ?_
    rintro e w1 ⟨C, rfl, hb, hC⟩
    have HB := Lib.hid hb
    rw [hv]
    rcases hC with ⟨-, h⟩ | ⟨B, hK, ⟨rfl, rfl⟩ | ⟨rfl, rfl⟩ | ⟨rfl, rfl⟩ | ⟨rfl, rfl⟩⟩
    · rw [hv] at h; cases h
    · have hvv : vi 0 n = allR n 120 := by simp [vi, hv]
      have HVV := Lib.hid hvv
      clear hvv hb hv hK
      unfold kd0
      go_wp2_with fail
      refine (kinds1 n _).mono ?_
      rintro e w2 ⟨rfl, hb2⟩
      go_wp2_with fail
      go_ret
      exact ⟨ret_str HVV.out.symm, ext_trans HB.out (ext_alloc hb2)⟩
    all_goals
      have hvv := hv
      have HK1 := cell_alloc hK.1 (.cells (kd1 B) 186)
      have HK2 := cell_alloc hK.2.1 (.cells (kd2 B) 186)
      have HK3 := cell_alloc hK.2.2 (.cells (kd3 B) 186)
      clear hb hvv hK
    · have HVV := Lib.hid (show vi 1 n = ⟨#[48]⟩ by simp [vi, hv])
      clear hv HK2 HK3
      unfold kd1 at *
      go_wp2_with fail
      refine (val_same1 n _ _ _ HK1).mono ?_
      rintro e w2 ⟨rfl, rfl⟩
      go_wp2_with fail
      go_ret
      exact ⟨ret_str HVV.out.symm, HB.out.alloc HB.out.size _⟩
    · have HVV := Lib.hid (show vi 2 n = ⟨#[]⟩ by simp [vi, hv])
      clear hv HK1 HK3
      unfold kd2 at *
      go_wp2_with fail
      refine (val_same1 n _ _ _ HK2).mono ?_
      rintro e w2 ⟨rfl, rfl⟩
      go_wp2_with fail
      go_ret
      exact ⟨ret_str HVV.out.symm, HB.out.alloc HB.out.size _⟩
    · have HVV := Lib.hid (show vi 3 n = ⟨#[]⟩ by simp [vi, hv])
      clear hv HK1 HK2
      unfold kd3 at *
      go_wp2_with fail
      refine (val_same1 n _ _ _ HK3).mono ?_
      rintro e w2 ⟨rfl, rfl⟩
      go_wp2_with fail
      go_ret
      exact ⟨ret_str HVV.out.symm, HB.out.alloc HB.out.size _⟩
end Go.Proofs.YtbiadennhnokhaaGreatDoor
