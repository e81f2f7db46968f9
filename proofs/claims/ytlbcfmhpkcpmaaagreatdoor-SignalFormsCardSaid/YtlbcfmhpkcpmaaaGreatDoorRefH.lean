import Derived.Test.YtlbcfmhpkcpmaaaGreatDoorRefG
import Derived.Test.YtlbcfmhpkcpmaaaGreatDoorPl7
namespace Go.Proofs.YtlbcfmhpkcpmaaaGreatDoor
open Go.RowKit

/-- wavestoreref03.Parse -/
def parR (s : ByteArray) : List UInt8 × Int := match readS s with | none => ([], 3) | some (neg, ds, ex) => textR (stripR neg ds ex)
theorem refOk_par (s : ByteArray) : refOk s = decide (parR s = (s.data.toList, 0)) := by
  unfold refOk parR
  cases readS s with
  | none => exact (decide_eq_false (by intro h; injection h with _ h; cases h)).symm
  | some p => rfl

set_option maxHeartbeats 400000 in
set_option maxRecDepth 100000 in
theorem ref_Parse (s : ByteArray) (w : World) (hs : s.size ≤ maxLen) : Calls Tryz.prog 91 #[.string s] w (TextPost (parR s) w) := by
  go_enter Tryz.func91, Tryz.ntmps91
  go_wp2_with fail
  refine (ref_Read s _ hs).mono ?_
  rintro e w1 ⟨neg, ds, ex, ok, rfl, hrd, hbd, hb⟩
  have HB := Lib.hid hb
  clear hb
  cases ok
  · have HP := Lib.hid (show parR s = ([], 3) by
      unfold parR; rw [hrd]; rfl)
    clear hrd hbd
    go_wp2_with fail
    go_ret2
    rw [HP.out]
    exact ⟨_, rfl, rfl, HB.out.alloc HB.out.size _⟩
  · have HP := Lib.hid (show parR s = textR (stripR neg ds.data.toList ex) by
      unfold parR; rw [hrd]; rfl)
    obtain ⟨b1, b2, b3⟩ := hbd rfl
    clear hrd hbd
    go_wp2_with fail
    refine (ref_Text neg ds ex _ b1 b2 b3).mono ?_
    rintro e w2 ⟨o, rfl, ho, hb2⟩
    have HO := Lib.hid ho
    have HB2 := Lib.hid (ext_trans HB.out (ext_alloc hb2))
    clear ho hb2
    go_wp2_with fail
    go_ret2
    rw [HP.out]
    exact ⟨o, rfl, HO.out, HB2.out⟩

theorem ba_beq (a b : ByteArray) : (a.toList == b.toList) = decide (a.data.toList = b.data.toList) := by
  rw [ByteArray.toList_eq, ByteArray.toList_eq, Bool.eq_iff_iff, beq_iff_eq, decide_eq_true_iff]

set_option maxHeartbeats 400000 in
set_option maxRecDepth 100000 in
theorem ref_dValid (s : ByteArray) (w : World) (hs : s.size ≤ maxLen) : Calls Tryz.prog 76 #[.string s] w fun e w' => e = .returned (.bool (decOk s)) ∧ Below w.heap.size w w' := by
  rw [← refOk_eq, refOk_par]
  have HP := Lib.hid (ref_Parse s w hs)
  generalize parR s = r at HP ⊢
  obtain ⟨t, x⟩ := r
  go_enter Tryz.func76, Tryz.ntmps76
  go_wp2_with fail
  refine HP.out.mono ?_
  rintro e w1 ⟨o, rfl, ho, hb⟩
  dsimp only at ho ⊢
  have HB := Lib.hid hb
  have HO := Lib.hid ho
  clear hb ho
  by_cases hx : x = 0
  · subst hx
    have hbq := ba_beq o s
    rw [HO.out] at hbq
    by_cases ht : t = s.data.toList
    · have hq : (o.toList == s.toList) = true := by rw [hbq]; simpa using ht
      have HD := Lib.hid (show decide ((t, (0 : Int)) = (s.data.toList, 0)) = true by simpa using ht)
      clear hbq ht
      go_wp2_with fail
      go_ret
      exact ⟨ret_bool HD.out.symm, HB.out⟩
    · have hq : (o.toList == s.toList) = false := by rw [hbq]; simpa using ht
      have HD := Lib.hid (show decide ((t, (0 : Int)) = (s.data.toList, 0)) = false by simpa using ht)
      clear hbq ht
      go_wp2_with fail
      go_ret
      exact ⟨ret_bool HD.out.symm, HB.out⟩
  · have hxb : (x == 0) = false := by simpa using hx
    have HD := Lib.hid (show decide ((t, x) = (s.data.toList, (0 : Int))) = false by simp [hx])
    clear hx
    go_wp2_with fail
    go_ret
    exact ⟨ret_bool HD.out.symm, HB.out⟩
end Go.Proofs.YtlbcfmhpkcpmaaaGreatDoor
