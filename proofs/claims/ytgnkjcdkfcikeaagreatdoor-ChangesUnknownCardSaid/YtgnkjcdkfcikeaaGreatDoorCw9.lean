import Derived.Test.YtgnkjcdkfcikeaaGreatDoorCw8
namespace Go.Proofs.YtgnkjcdkfcikeaaGreatDoor
open Go.RowKit
set_option linter.unusedSimpArgs false

theorem quoB_size {s : ByteArray} (h : s.size ≤ 100000) : (bsB (quoL s.data.toList)).size ≤ 400000 := by
  rw [bsB_size]
  have h1 := quoL_len s.data.toList
  have h2 : s.data.toList.length = s.size := by simp
  omega

set_option maxHeartbeats 800000 in
theorem val_Command1 (n : Int) (s id : ByteArray) (w : World) (hg : Glob w) (hv : vt 1 n = true) (hs : s.size ≤ 100000) (hid : id.size ≤ 100000) :
    Calls Tryz.prog 28 #[.int .i64 1, .int .i64 n, .string s, .string id] w fun e w' => e = .returned (.string (cmdB 1 n s id)) ∧ Below w.heap.size w w' := by
  have hs2 : s.size ≤ maxLen := by unfold maxLen; omega
  have HG := Lib.hid hg
  clear hg
  go_enter Tryz.func28, Tryz.ntmps28
  go_wp2_with fail
  refine (val_of_any 1 n _).mono ?_
  rintro e w1 ⟨C, rfl, hb, hC⟩
  have HB := Lib.hid hb
  rw [hv]
  rcases hC with ⟨-, h⟩ | ⟨B, hK, ⟨h, -⟩ | ⟨-, rfl⟩ | ⟨h, -⟩ | ⟨h, -⟩⟩
  · rw [hv] at h; cases h
  · cases h
  · have HX := Lib.hid hv
    clear hb hv hK
    unfold kd1
    have hrow := OwnRow.fresh w1 (kd1 B) 104
    unfold kd1 at hrow
    have HROW := Lib.hid hrow
    clear hrow
    go_wp2_with fail
    refine (kinds2 n s _ (HG.out.below (HB.out.alloc HB.out.size _)) hs2).mono ?_
    rintro e w2 ⟨rfl, hb2⟩
    have HB2 := Lib.hid (ext_trans HB.out (ext_alloc hb2))
    have c5 := (HROW.out.below hb2 (by simp)).cell (j := 5) rfl
    have c6 := (HROW.out.below hb2 (by simp)).cell (j := 6) rfl
    clear hb2
    cases hvv : decOk s
    · have HR := Lib.hid (cmd_no (k := 1) (n := n) (s := s) (id := id) (by unfold vv; simp [hvv]))
      clear hvv
      go_wp2_with fail
      refine bodyPost_ret (v := .string ⟨#[]⟩) (by simp [results, Tryz.results28, go_sem]) rfl ?_
      rw [HR.out]
      exact ⟨rfl, HB2.out⟩
    · have HVV := Lib.hid (show vv 1 n s = true by unfold vv; simp [hvv, HX.out])
      have HFS := Lib.hid (show (s : ByteArray).size ≤ 400000 by omega)
      clear hvv
      go_wp2_with fail
      refine (val_code id _ (by omega)).mono ?_
      rintro e w3 ⟨rfl, rfl⟩
      cases hc : codeOk id.data.toList
      · have HR := Lib.hid (cmd_no (k := 1) (n := n) (s := s) (id := id) (by rw [hc]; simp))
        clear hc
        go_wp2_with fail
        refine bodyPost_ret (v := .string ⟨#[]⟩) (by simp [results, Tryz.results28, go_sem]) rfl ?_
        rw [HR.out]
        exact ⟨rfl, HB2.out⟩
      · have HAL := Lib.hid (show (vt 1 n && vv 1 n s && codeOk id.data.toList) = true by rw [HX.out, HVV.out, hc]; rfl)
        clear hc
        have HR := Lib.hid ((cmd_long HAL.out rfl).trans (by rw [show bsB (fmtV 1 s.data.toList) = s by exact bsB_of s]))
        have hlt : w1.heap.size < w3.heap.size := cell_lt c5
        have hq1 : ¬ 9223372036854775807 < 1 + (s).size := by have := HFS.out; omega
        have hq2 : ¬ 9223372036854775807 < 1 + (s).size + 1 := by have := HFS.out; omega
        have hq3 : ¬ 9223372036854775807 < 1 + (s).size + 1 + id.size := by have := HFS.out; omega
        go_upto_region 6 with fail
        go_region_held3 (fun w' => w'.cell? ⟨w1.heap.size, 5, none⟩ = some (Value.func (.func 75) #[] #[]) ∧ w'.cell? ⟨w1.heap.size, 6, none⟩ = some (.string ⟨#[114]⟩))
          (first | exact ⟨d5, d6⟩ | exact ⟨c5, c6⟩ | go_keep)
          (first
            | (go_at_call 75; (with_reducible refine (kinds4 s _).mono ?_); rintro e w4 ⟨rfl, hb4⟩; have d5 := (hb4.cell (p := ⟨w1.heap.size, 5, none⟩) hlt).trans c5; have d6 := (hb4.cell (p := ⟨w1.heap.size, 6, none⟩) hlt).trans c6; have HB4 := Lib.hid (ext_trans HB2.out (below_undr hb4)); clear hb4)
            | fail "no arm")
        all_goals
          (try (rename_i hh; clear hh))
          go_wp2_with fail
          refine bodyPost_ret (v := .string (cmdB _ _ _ _)) (by rw [HR.out]; simp [results, Tryz.results28, go_sem] <;> rfl) rfl ⟨rfl, HB4.out⟩
  · cases h
  · cases h

set_option maxHeartbeats 800000 in
theorem val_Command2 (n : Int) (s id : ByteArray) (w : World) (hg : Glob w) (hv : vt 2 n = true) (hs : s.size ≤ 100000) (hid : id.size ≤ 100000) :
    Calls Tryz.prog 28 #[.int .i64 2, .int .i64 n, .string s, .string id] w fun e w' => e = .returned (.string (cmdB 2 n s id)) ∧ Below w.heap.size w w' := by
  have hs2 : s.size ≤ maxLen := by unfold maxLen; omega
  have HG := Lib.hid hg
  clear hg
  go_enter Tryz.func28, Tryz.ntmps28
  go_wp2_with fail
  refine (val_of_any 2 n _).mono ?_
  rintro e w1 ⟨C, rfl, hb, hC⟩
  have HB := Lib.hid hb
  rw [hv]
  rcases hC with ⟨-, h⟩ | ⟨B, hK, ⟨h, -⟩ | ⟨h, -⟩ | ⟨-, rfl⟩ | ⟨h, -⟩⟩
  · rw [hv] at h; cases h
  · cases h
  · cases h
  · have HX := Lib.hid hv
    clear hb hv hK
    unfold kd2
    have hrow := OwnRow.fresh w1 (kd2 B) 104
    unfold kd2 at hrow
    have HROW := Lib.hid hrow
    clear hrow
    go_wp2_with fail
    refine (kinds5 n s _ hs2).mono ?_
    rintro e w2 ⟨rfl, hb2⟩
    have HB2 := Lib.hid (ext_trans HB.out (ext_alloc hb2))
    have c5 := (HROW.out.below hb2 (by simp)).cell (j := 5) rfl
    have c6 := (HROW.out.below hb2 (by simp)).cell (j := 6) rfl
    clear hb2
    cases hvv : decide (s.size ≤ 64)
    · have HR := Lib.hid (cmd_no (k := 2) (n := n) (s := s) (id := id) (by unfold vv; simp [hvv]))
      clear hvv
      go_wp2_with fail
      refine bodyPost_ret (v := .string ⟨#[]⟩) (by simp [results, Tryz.results28, go_sem]) rfl ?_
      rw [HR.out]
      exact ⟨rfl, HB2.out⟩
    · have HVV := Lib.hid (show vv 2 n s = true by unfold vv; simp [hvv, HX.out])
      have HFS := Lib.hid (show (bsB (quoL s.data.toList) : ByteArray).size ≤ 400000 by exact quoB_size hs)
      clear hvv
      go_wp2_with fail
      refine (val_code id _ (by omega)).mono ?_
      rintro e w3 ⟨rfl, rfl⟩
      cases hc : codeOk id.data.toList
      · have HR := Lib.hid (cmd_no (k := 2) (n := n) (s := s) (id := id) (by rw [hc]; simp))
        clear hc
        go_wp2_with fail
        refine bodyPost_ret (v := .string ⟨#[]⟩) (by simp [results, Tryz.results28, go_sem]) rfl ?_
        rw [HR.out]
        exact ⟨rfl, HB2.out⟩
      · have HAL := Lib.hid (show (vt 2 n && vv 2 n s && codeOk id.data.toList) = true by rw [HX.out, HVV.out, hc]; rfl)
        clear hc
        have HR := Lib.hid ((cmd_long HAL.out rfl).trans (by rw [show bsB (fmtV 2 s.data.toList) = bsB (quoL s.data.toList) by rfl]))
        have hlt : w1.heap.size < w3.heap.size := cell_lt c5
        have hq1 : ¬ 9223372036854775807 < 1 + (bsB (quoL s.data.toList)).size := by have := HFS.out; omega
        have hq2 : ¬ 9223372036854775807 < 1 + (bsB (quoL s.data.toList)).size + 1 := by have := HFS.out; omega
        have hq3 : ¬ 9223372036854775807 < 1 + (bsB (quoL s.data.toList)).size + 1 + id.size := by have := HFS.out; omega
        go_upto_region 6 with fail
        go_region_held3 (fun w' => w'.cell? ⟨w1.heap.size, 5, none⟩ = some (Value.func (.func 79) #[] #[]) ∧ w'.cell? ⟨w1.heap.size, 6, none⟩ = some (.string ⟨#[115]⟩))
          (first | exact ⟨d5, d6⟩ | exact ⟨c5, c6⟩ | go_keep)
          (first
            | (go_at_call 79; (with_reducible refine (quo_Quote s _ hs).mono ?_); rintro e w4 ⟨rfl, hb4⟩; have d5 := (hb4.cell (p := ⟨w1.heap.size, 5, none⟩) hlt).trans c5; have d6 := (hb4.cell (p := ⟨w1.heap.size, 6, none⟩) hlt).trans c6; have HB4 := Lib.hid (ext_trans HB2.out (below_undr hb4)); clear hb4)
            | fail "no arm")
        all_goals
          (try (rename_i hh; clear hh))
          go_wp2_with fail
          refine bodyPost_ret (v := .string (cmdB _ _ _ _)) (by rw [HR.out]; simp [results, Tryz.results28, go_sem] <;> rfl) rfl ⟨rfl, HB4.out⟩
  · cases h

set_option maxHeartbeats 800000 in
theorem val_Command3 (n : Int) (s id : ByteArray) (w : World) (hg : Glob w) (hv : vt 3 n = true) (hs : s.size ≤ 100000) (hid : id.size ≤ 100000) :
    Calls Tryz.prog 28 #[.int .i64 3, .int .i64 n, .string s, .string id] w fun e w' => e = .returned (.string (cmdB 3 n s id)) ∧ Below w.heap.size w w' := by
  have hs2 : s.size ≤ maxLen := by unfold maxLen; omega
  have HG := Lib.hid hg
  clear hg
  go_enter Tryz.func28, Tryz.ntmps28
  go_wp2_with fail
  refine (val_of_any 3 n _).mono ?_
  rintro e w1 ⟨C, rfl, hb, hC⟩
  have HB := Lib.hid hb
  rw [hv]
  rcases hC with ⟨-, h⟩ | ⟨B, hK, ⟨h, -⟩ | ⟨h, -⟩ | ⟨h, -⟩ | ⟨-, rfl⟩⟩
  · rw [hv] at h; cases h
  · cases h
  · cases h
  · cases h
  · have HX := Lib.hid hv
    clear hb hv hK
    unfold kd3
    have hrow := OwnRow.fresh w1 (kd3 B) 104
    unfold kd3 at hrow
    have HROW := Lib.hid hrow
    clear hrow
    go_wp2_with fail
    refine (kinds7 n s _).mono ?_
    rintro e w2 ⟨rfl, hb2⟩
    have HB2 := Lib.hid (ext_trans HB.out (ext_alloc hb2))
    have c5 := (HROW.out.below hb2 (by simp)).cell (j := 5) rfl
    have c6 := (HROW.out.below hb2 (by simp)).cell (j := 6) rfl
    clear hb2
    cases hvv : nilB s
    · have HR := Lib.hid (cmd_no (k := 3) (n := n) (s := s) (id := id) (by unfold vv; simp [hvv]))
      clear hvv
      go_wp2_with fail
      refine bodyPost_ret (v := .string ⟨#[]⟩) (by simp [results, Tryz.results28, go_sem]) rfl ?_
      rw [HR.out]
      exact ⟨rfl, HB2.out⟩
    · have HVV := Lib.hid (show vv 3 n s = true by unfold vv; simp [hvv, HX.out])
      have HFS := Lib.hid (show (⟨#[49]⟩ : ByteArray).size ≤ 400000 by decide)
      clear hvv
      go_wp2_with fail
      refine (val_code id _ (by omega)).mono ?_
      rintro e w3 ⟨rfl, rfl⟩
      cases hc : codeOk id.data.toList
      · have HR := Lib.hid (cmd_no (k := 3) (n := n) (s := s) (id := id) (by rw [hc]; simp))
        clear hc
        go_wp2_with fail
        refine bodyPost_ret (v := .string ⟨#[]⟩) (by simp [results, Tryz.results28, go_sem]) rfl ?_
        rw [HR.out]
        exact ⟨rfl, HB2.out⟩
      · have HAL := Lib.hid (show (vt 3 n && vv 3 n s && codeOk id.data.toList) = true by rw [HX.out, HVV.out, hc]; rfl)
        clear hc
        have HR := Lib.hid (cmd_short HAL.out rfl)
        have hq1 : ¬ 9223372036854775807 < 1 + id.size := by omega
        go_wp2_with fail
        refine (kinds8 s _).mono ?_
        rintro e w4 ⟨rfl, hb4⟩
        have HB4 := Lib.hid (ext_trans HB2.out hb4)
        clear hb4
        go_wp2_with fail
        refine bodyPost_ret (v := .string (⟨#[49]⟩ ++ id)) (by simp [results, Tryz.results28, go_sem]) rfl ⟨by rw [HR.out]; rfl, HB4.out⟩
end Go.Proofs.YtgnkjcdkfcikeaaGreatDoor
