import Derived.Test.YtimeilkelnljnaaGreatDoorRefG
import Derived.Test.YtimeilkelnljnaaGreatDoorPl7
import Derived.Test.YtimeilkelnljnaaGreatDoorVal5
namespace Go.Proofs.YtimeilkelnljnaaGreatDoor
open Go.RowKit

/-- wavestoreref03.Parse -/
def parR (s : ByteArray) : List UInt8 × Int := match readS s with | none => ([], 3) | some (neg, ds, ex) => textR (stripR neg ds ex)
theorem refOk_par (s : ByteArray) : refOk s = decide (parR s = (s.data.toList, 0)) := by
  unfold refOk parR
  cases readS s with
  | none => exact (decide_eq_false (by intro h; injection h with _ h; cases h)).symm
  | some p => rfl

set_option maxHeartbeats 400000 in
set_option maxRecDepth 100000 in
theorem ref_Parse (s : ByteArray) (w : World) (hs : s.size ≤ maxLen) : Calls Tryz.prog 101 #[.string s] w (TextPost (parR s) w) := by
  go_enter Tryz.func101, Tryz.ntmps101
  go_wp2_with fail
  refine (ref_Read s _ hs).mono ?_
  rintro e w1 ⟨neg, ds, ex, ok, rfl, hrd, hbd, hb⟩
  have HB := Lib.hid hb
  clear hb
  cases ok
  · have HP := Lib.hid (show parR s = ([], 3) by
      unfold parR; rw [hrd]; rfl)
    clear hrd hbd
    go_wp2_with fail
    go_ret2
    rw [HP.out]
    exact ⟨_, rfl, rfl, HB.out.alloc HB.out.size _⟩
  · have HP := Lib.hid (show parR s = textR (stripR neg ds.data.toList ex) by
      unfold parR; rw [hrd]; rfl)
    obtain ⟨b1, b2, b3⟩ := hbd rfl
    clear hrd hbd
    go_wp2_with fail
    refine (ref_Text neg ds ex _ b1 b2 b3).mono ?_
    rintro e w2 ⟨o, rfl, ho, hb2⟩
    have HO := Lib.hid ho
    have HB2 := Lib.hid (ext_trans HB.out (ext_alloc hb2))
    clear ho hb2
    go_wp2_with fail
    go_ret2
    rw [HP.out]
    exact ⟨o, rfl, HO.out, HB2.out⟩

theorem ba_beq (a b : ByteArray) : (a.toList == b.toList) = decide (a.data.toList = b.data.toList) := by
  rw [ByteArray.toList_eq, ByteArray.toList_eq, Bool.eq_iff_iff, beq_iff_eq, decide_eq_true_iff]

set_option maxHeartbeats 400000 in
set_option maxRecDepth 100000 in
theorem ref_dValid (s : ByteArray) (w : World) (hs : s.size ≤ maxLen) : Calls Tryz.prog 78 #[.string s] w fun e w' => e = .returned (.bool (decOk s)) ∧ Below w.heap.size w w' := by
  rw [← refOk_eq, refOk_par]
  have HP := Lib.hid (ref_Parse s w hs)
  generalize parR s = r at HP ⊢
  obtain ⟨t, x⟩ := r
  go_enter Tryz.func78, Tryz.ntmps78
  go_wp2_with fail
  refine HP.out.mono ?_
  rintro e w1 ⟨o, rfl, ho, hb⟩
  dsimp only at ho ⊢
  have HB := Lib.hid hb
  have HO := Lib.hid ho
  clear hb ho
  by_cases hx : x = 0
  · subst hx
    have hbq := ba_beq o s
    rw [HO.out] at hbq
    by_cases ht : t = s.data.toList
    · have hq : (o.toList == s.toList) = true := by rw [hbq]; simpa using ht
      have HD := Lib.hid (show decide ((t, (0 : Int)) = (s.data.toList, 0)) = true by simpa using ht)
      clear hbq ht
      go_wp2_with fail
      go_ret
      exact ⟨ret_bool HD.out.symm, HB.out⟩
    · have hq : (o.toList == s.toList) = false := by rw [hbq]; simpa using ht
      have HD := Lib.hid (show decide ((t, (0 : Int)) = (s.data.toList, 0)) = false by simpa using ht)
      clear hbq ht
      go_wp2_with fail
      go_ret
      exact ⟨ret_bool HD.out.symm, HB.out⟩
  · have hxb : (x == 0) = false := by simpa using hx
    have HD := Lib.hid (show decide ((t, x) = (s.data.toList, (0 : Int))) = false by simp [hx])
    clear hx
    go_wp2_with fail
    go_ret
    exact ⟨ret_bool HD.out.symm, HB.out⟩
end Go.Proofs.YtimeilkelnljnaaGreatDoor

namespace Go.Proofs.YtimeilkelnljnaaGreatDoor
open Go.RowKit

set_option maxHeartbeats 400000 in
set_option maxRecDepth 100000 in
theorem ref_ValidType (k n : Int) (w : World) : Calls Tryz.prog 49 #[.int .i64 k, .int .i64 n] w fun e w' => e = .returned (.bool (vt k n)) ∧ w = w' := by
  by_cases hk : k = 0
  · subst hk
    by_cases h1 : 1 ≤ n
    · by_cases h2 : n ≤ 128
      · have HV := Lib.hid (show vt 0 n = true by simp [vt, h1, h2])
        go_enter Tryz.func49, Tryz.ntmps49
        go_wp2_with fail
        go_ret
        exact ⟨ret_bool HV.out.symm, rfl⟩
      · have HV := Lib.hid (show vt 0 n = false by simp [vt, h2])
        go_enter Tryz.func49, Tryz.ntmps49
        go_wp2_with fail
        go_ret
        exact ⟨ret_bool HV.out.symm, rfl⟩
    · have HV := Lib.hid (show vt 0 n = false by simp [vt, h1])
      have h1' : n < 1 := by omega
      clear h1
      go_enter Tryz.func49, Tryz.ntmps49
      go_wp2_with fail
      go_ret
      exact ⟨ret_bool HV.out.symm, rfl⟩
  · have hkb : (k == 0) = false := by simpa using hk
    by_cases h1 : 0 < k
    · by_cases h2 : k ≤ 3
      · by_cases h3 : n = 0
        · subst h3
          have HV := Lib.hid (show vt k 0 = true by unfold vt; simp; omega)
          clear hk
          go_enter Tryz.func49, Tryz.ntmps49
          go_wp2_with fail
          go_ret
          exact ⟨ret_bool HV.out.symm, rfl⟩
        · have HV := Lib.hid (show vt k n = false by simp [vt, h3, hk])
          have h3b : (n == 0) = false := by simpa using h3
          clear hk h3
          go_enter Tryz.func49, Tryz.ntmps49
          go_wp2_with fail
          go_ret
          exact ⟨ret_bool HV.out.symm, rfl⟩
      · have HV := Lib.hid (show vt k n = false by unfold vt; simp; omega)
        have h2' : 3 < k := by omega
        clear hk h2
        go_enter Tryz.func49, Tryz.ntmps49
        go_wp2_with fail
        go_ret
        exact ⟨ret_bool HV.out.symm, rfl⟩
    · have HV := Lib.hid (show vt k n = false by unfold vt; simp; omega)
      have h1' : k ≤ 0 := by omega
      clear hk h1
      go_enter Tryz.func49, Tryz.ntmps49
      go_wp2_with fail
      go_ret
      exact ⟨ret_bool HV.out.symm, rfl⟩

theorem vt_kind {k n : Int} (h : vt k n = true) : k = 0 ∨ k = 1 ∨ k = 2 ∨ k = 3 := by
  unfold vt at h
  simp at h
  omega

set_option maxHeartbeats 400000 in
set_option maxRecDepth 100000 in
theorem ref_vInitial (k n : Int) (w : World) : Calls Tryz.prog 50 #[.int .i64 k, .int .i64 n] w fun e w' => e = .returned (.string (vi k n)) ∧ Below w.heap.size w w' := by
  have HT := Lib.hid (ref_ValidType k n w)
  cases hv : vt k n
  · have HI := Lib.hid (show vi k n = ⟨#[]⟩ by simp [vi, hv])
    rw [hv] at HT
    clear hv
    go_enter Tryz.func50, Tryz.ntmps50
    go_wp2_with fail
    refine HT.out.mono ?_
    rintro e w1 ⟨rfl, rfl⟩
    go_wp2_with fail
    go_ret
    exact ⟨ret_str HI.out.symm, Below.refl _ _⟩
  · rcases vt_kind hv with rfl | rfl | rfl | rfl
    · have HI := Lib.hid (show vi 0 n = allR n 120 by simp [vi, hv])
      rw [hv] at HT
      clear hv
      go_enter Tryz.func50, Tryz.ntmps50
      go_wp2_with fail
      refine HT.out.mono ?_
      rintro e w1 ⟨rfl, rfl⟩
      go_wp2_with fail
      refine (ref_All n 120 _).mono ?_
      rintro e w2 ⟨rfl, hb⟩
      have HB := Lib.hid hb
      clear hb
      go_wp2_with fail
      go_ret
      exact ⟨ret_str HI.out.symm, HB.out⟩
    · have HI := Lib.hid (show vi 1 n = ⟨#[48]⟩ by simp [vi, hv])
      rw [hv] at HT
      clear hv
      go_enter Tryz.func50, Tryz.ntmps50
      go_wp2_with fail
      refine HT.out.mono ?_
      rintro e w1 ⟨rfl, rfl⟩
      go_wp2_with fail
      go_ret
      exact ⟨ret_str HI.out.symm, Below.refl _ _⟩
    · have HI := Lib.hid (show vi 2 n = ⟨#[]⟩ by simp [vi, hv])
      rw [hv] at HT
      clear hv
      go_enter Tryz.func50, Tryz.ntmps50
      go_wp2_with fail
      refine HT.out.mono ?_
      rintro e w1 ⟨rfl, rfl⟩
      go_wp2_with fail
      go_ret
      exact ⟨ret_str HI.out.symm, Below.refl _ _⟩
    · have HI := Lib.hid (show vi 3 n = ⟨#[]⟩ by simp [vi, hv])
      rw [hv] at HT
      clear hv
      go_enter Tryz.func50, Tryz.ntmps50
      go_wp2_with fail
      refine HT.out.mono ?_
      rintro e w1 ⟨rfl, rfl⟩
      go_wp2_with fail
      go_ret
      exact ⟨ret_str HI.out.symm, Below.refl _ _⟩

theorem nilB_t {s : ByteArray} (h : s.size = 0) : s.toList.isEmpty = true := by
  rw [ByteArray.toList_eq, List.length_eq_zero_iff.1 (show s.data.toList.length = 0 by simpa using h)]; rfl

set_option maxHeartbeats 400000 in
set_option maxRecDepth 100000 in
theorem ref_vValid (k n : Int) (s : ByteArray) (w : World) (hs : s.size ≤ maxLen) : Calls Tryz.prog 51 #[.int .i64 k, .int .i64 n, .string s] w fun e w' => e = .returned (.bool (vv k n s)) ∧ Below w.heap.size w w' := by
  have HT := Lib.hid (ref_ValidType k n w)
  have HM := Lib.hid hs
  unfold maxLen at hs
  cases hv : vt k n
  · have HI := Lib.hid (show vv k n s = false by simp [vv, hv])
    rw [hv] at HT
    clear hv
    go_enter Tryz.func51, Tryz.ntmps51
    go_wp2_with fail
    refine HT.out.mono ?_
    rintro e w1 ⟨rfl, rfl⟩
    go_wp2_with fail
    go_ret
    exact ⟨ret_bool HI.out.symm, Below.refl _ _⟩
  · rcases vt_kind hv with rfl | rfl | rfl | rfl
    · have HI := Lib.hid (show vv 0 n s = (bvIs s && decide ((s.size : Int) = n)) by simp [vv, hv])
      rw [hv] at HT
      clear hv
      go_enter Tryz.func51, Tryz.ntmps51
      go_wp2_with fail
      refine HT.out.mono ?_
      rintro e w1 ⟨rfl, rfl⟩
      go_wp2_with fail
      refine (ref_bValid n s _ HM.out).mono ?_
      rintro e w2 ⟨rfl, hb⟩
      have HB := Lib.hid hb
      clear hb
      go_wp2_with fail
      go_ret
      exact ⟨ret_bool HI.out.symm, HB.out⟩
    · have HI := Lib.hid (show vv 1 n s = decOk s by simp [vv, hv])
      rw [hv] at HT
      clear hv
      go_enter Tryz.func51, Tryz.ntmps51
      go_wp2_with fail
      refine HT.out.mono ?_
      rintro e w1 ⟨rfl, rfl⟩
      go_wp2_with fail
      refine (ref_dValid s _ HM.out).mono ?_
      rintro e w2 ⟨rfl, hb⟩
      have HB := Lib.hid hb
      clear hb
      go_wp2_with fail
      go_ret
      exact ⟨ret_bool HI.out.symm, HB.out⟩
    · have HI := Lib.hid (show vv 2 n s = decide (s.size ≤ 64) by simp [vv, hv])
      rw [hv] at HT
      clear hv
      go_enter Tryz.func51, Tryz.ntmps51
      go_wp2_with fail
      refine HT.out.mono ?_
      rintro e w1 ⟨rfl, rfl⟩
      go_wp2_with fail
      go_ret
      exact ⟨ret_bool (by rw [HI.out, Bool.eq_iff_iff]; simp; try omega), Below.refl _ _⟩
    · have HI := Lib.hid (show vv 3 n s = nilB s by simp [vv, hv])
      rw [hv] at HT
      clear hv
      by_cases hz : s.size = 0
      · have HN := Lib.hid (show nilB s = true by simp [nilB, hz])
        obtain rfl : s = ⟨#[]⟩ := by
          obtain ⟨a⟩ := s
          have : a = #[] := Array.eq_empty_of_size_eq_zero hz
          rw [this]
        clear hz
        go_enter Tryz.func51, Tryz.ntmps51
        go_wp2_with fail
        refine HT.out.mono ?_
        rintro e w1 ⟨rfl, rfl⟩
        go_wp2_with fail
        go_ret
        exact ⟨ret_bool (by rw [HI.out, HN.out]; try rfl), Below.refl _ _⟩
      · have HN := Lib.hid (show nilB s = false by simp [nilB, hz])
        have hne := toList_ne s hz
        clear hz
        go_enter Tryz.func51, Tryz.ntmps51
        go_wp2_with fail
        refine HT.out.mono ?_
        rintro e w1 ⟨rfl, rfl⟩
        go_wp2_with fail
        go_ret
        exact ⟨ret_bool (by rw [HI.out, HN.out]; try rfl), Below.refl _ _⟩
end Go.Proofs.YtimeilkelnljnaaGreatDoor
