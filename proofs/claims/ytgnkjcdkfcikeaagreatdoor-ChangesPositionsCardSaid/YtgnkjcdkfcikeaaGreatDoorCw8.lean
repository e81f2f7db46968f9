import Derived.Test.YtgnkjcdkfcikeaaGreatDoorCw7
namespace Go.Proofs.YtgnkjcdkfcikeaaGreatDoor
open Go.RowKit

theorem sho_size {s : ByteArray} (h : s.size ≤ 100000) : (shoB s).size ≤ 100000 := by
  unfold shoB
  rw [bsB_size]
  have := sho_len s.data.toList
  have h2 : s.data.toList.length = s.size := by simp
  omega
def cmdB (k n : Int) (s id : ByteArray) : ByteArray := bsB (cmdL cv k n s.data.toList id.data.toList)
theorem cmd_no {k n : Int} {s id : ByteArray} (h : (vt k n && vv k n s && codeOk id.data.toList) = false) : cmdB k n s id = ⟨#[]⟩ := by
  unfold cmdB cmdL
  rw [if_neg (by show ¬ (vt k n && vv k n (bsB s.data.toList) && codeOk id.data.toList) = true; rw [bsB_of, h]; simp)]
  rfl
theorem cmd_short {k n : Int} {s id : ByteArray} (h : (vt k n && vv k n s && codeOk id.data.toList) = true) (h2 : short1 k n = true) : cmdB k n s id = bsB (fmtV k s.data.toList) ++ id := by
  unfold cmdB cmdL
  rw [if_pos (by show (vt k n && vv k n (bsB s.data.toList) && codeOk id.data.toList) = true; rw [bsB_of, h]), if_pos h2]
  show bsB (fmtV k s.data.toList ++ id.data.toList) = _
  apply ByteArray.ext
  simp [bsB]
theorem cmd_long {k n : Int} {s id : ByteArray} (h : (vt k n && vv k n s && codeOk id.data.toList) = true) (h2 : short1 k n = false) : cmdB k n s id = (⟨#[letter k]⟩ ++ bsB (fmtV k s.data.toList)) ++ ⟨#[32]⟩ ++ id := by
  unfold cmdB cmdL
  rw [if_pos (by show (vt k n && vv k n (bsB s.data.toList) && codeOk id.data.toList) = true; rw [bsB_of, h]), if_neg (by rw [h2]; simp)]
  show bsB (letter k :: fmtV k s.data.toList ++ 32 :: id.data.toList) = _
  apply ByteArray.ext
  simp [bsB]
set_option maxHeartbeats 800000 in
theorem val_Command0 (n : Int) (s id : ByteArray) (w : World) (hv : vt 0 n = true) (hs : s.size ≤ 100000) (hid : id.size ≤ 100000) :
    Calls Tryz.prog 28 #[.int .i64 0, .int .i64 n, .string s, .string id] w fun e w' => e = .returned (.string (cmdB 0 n s id)) ∧ Below w.heap.size w w' := by
  have hs2 : s.size ≤ maxLen := by unfold maxLen; omega
  go_enter Tryz.func28, Tryz.ntmps28
  go_wp2_with fail
  refine (val_of_any 0 n _).mono ?_
  rintro e w1 ⟨C, rfl, hb, hC⟩
  have HB := Lib.hid hb
  rw [hv]
  rcases hC with ⟨-, h⟩ | ⟨B, hK, ⟨-, rfl⟩ | ⟨h, -⟩ | ⟨h, -⟩ | ⟨h, -⟩⟩
  · rw [hv] at h; cases h
  · have HX := Lib.hid hv
    clear hb hv hK
    unfold kd0
    have hrow := OwnRow.fresh w1 (kd0 B) 104
    unfold kd0 at hrow
    have HROW := Lib.hid hrow
    clear hrow
    go_wp2_with fail
    refine (bits_Valid n s _ hs2).mono ?_
    rintro e w2 ⟨rfl, hb2⟩
    have HB2 := Lib.hid (ext_trans HB.out (ext_alloc hb2))
    have c5 := (HROW.out.below hb2 (by simp)).cell (j := 5) rfl
    have c6 := (HROW.out.below hb2 (by simp)).cell (j := 6) rfl
    clear hb2
    cases hvv : (bvIs s && decide ((s.size : Int) = n))
    · have HR := Lib.hid (cmd_no (k := 0) (n := n) (s := s) (id := id) (by unfold vv; rw [if_pos rfl, hvv]; simp))
      clear hvv
      go_wp2_with fail
      refine bodyPost_ret (v := .string ⟨#[]⟩) (by simp [results, Tryz.results28, go_sem]) rfl ?_
      rw [HR.out]
      exact ⟨rfl, HB2.out⟩
    · have HVV := Lib.hid (show vv 0 n s = true by unfold vv; rw [if_pos rfl, hvv, HX.out]; rfl)
      have HFS := Lib.hid (sho_size hs)
      have HBV := Lib.hid (show bvIs s = true by rw [Bool.and_eq_true] at hvv; exact hvv.1)
      clear hvv
      go_wp2_with fail
      refine (val_code id _ (by omega)).mono ?_
      rintro e w3 ⟨rfl, rfl⟩
      cases hc : codeOk id.data.toList
      · have HR := Lib.hid (cmd_no (k := 0) (n := n) (s := s) (id := id) (by rw [hc]; simp))
        clear hc
        go_wp2_with fail
        refine bodyPost_ret (v := .string ⟨#[]⟩) (by simp [results, Tryz.results28, go_sem]) rfl ?_
        rw [HR.out]
        exact ⟨rfl, HB2.out⟩
      · have HAL := Lib.hid (show (vt 0 n && vv 0 n s && codeOk id.data.toList) = true by rw [HX.out, HVV.out, hc]; rfl)
        clear hc
        by_cases h1 : n = 1
        · have HR := Lib.hid (cmd_short HAL.out (by subst h1; rfl))
          have hb1 : (n == 1) = true := by rw [beq_iff_eq]; exact h1
          clear h1
          go_wp2_with fail
          refine (bits_Shorten s _ HBV.out).mono ?_
          rintro e w4 ⟨rfl, hb4⟩
          have HB4 := Lib.hid (ext_trans HB2.out hb4)
          clear hb4
          have hq1 : ¬ 9223372036854775807 < (shoB s).size + id.size := by have := HFS.out; omega
          go_wp2_with fail
          refine bodyPost_ret (v := .string (shoB s ++ id)) (by simp [results, Tryz.results28, go_sem]) rfl ⟨by rw [HR.out]; rfl, HB4.out⟩
        · have HR := Lib.hid (cmd_long HAL.out (by unfold short1; simp [h1]))
          have hb1 : (n == 1) = false := by rw [beq_eq_false_iff_ne]; exact h1
          clear h1
          have hlt : w1.heap.size < w3.heap.size := cell_lt c5
          have hq1 : ¬ 9223372036854775807 < 1 + (shoB s).size := by have := HFS.out; omega
          have hq2 : ¬ 9223372036854775807 < 1 + (shoB s).size + 1 := by have := HFS.out; omega
          have hq3 : ¬ 9223372036854775807 < 1 + (shoB s).size + 1 + id.size := by have := HFS.out; omega
          have hq4 : ¬ 9223372036854775807 < (⟨#[98]⟩ : ByteArray).size + (shoB s).size := hq1
          go_upto_region 6 with fail
          go_region_held3 (fun w' => w'.cell? ⟨w1.heap.size, 5, none⟩ = some (Value.func (.func 69) #[] #[]) ∧ w'.cell? ⟨w1.heap.size, 6, none⟩ = some (.string ⟨#[98]⟩))
            (first | exact ⟨d5, d6⟩ | exact ⟨c5, c6⟩ | go_keep)
            (first
              | (go_at_call 69; (with_reducible refine (bits_Shorten s _ HBV.out).mono ?_); rintro e w4 ⟨rfl, hb4⟩; have d5 := (hb4.cell (p := ⟨w1.heap.size, 5, none⟩) hlt).trans c5; have d6 := (hb4.cell (p := ⟨w1.heap.size, 6, none⟩) hlt).trans c6; have HB4 := Lib.hid (ext_trans HB2.out (below_undr hb4)); clear hb4)
              | fail "no arm")
          all_goals
            (try (rename_i hh; clear hh))
            go_wp2_with fail
            refine bodyPost_ret (v := .string (cmdB _ _ _ _)) (by rw [HR.out]; simp [results, Tryz.results28, go_sem] <;> rfl) rfl ⟨rfl, HB4.out⟩
  · cases h
  · cases h
  · cases h
end Go.Proofs.YtgnkjcdkfcikeaaGreatDoor
