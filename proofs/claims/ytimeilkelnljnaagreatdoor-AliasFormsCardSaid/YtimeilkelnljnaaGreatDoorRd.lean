import Derived.Test.YtimeilkelnljnaaGreatDoorFit
namespace Go.Proofs.YtimeilkelnljnaaGreatDoor
open Go.RowKit

/-! the reference's Read, possible, derive -/
set_option maxHeartbeats 800000 in
set_option maxRecDepth 100000 in
theorem ref_Read29 (d : Dv) (k n : Int) (s : ByteArray) (w : World) (hs : s.size ≤ maxLen) :
    Calls Tryz.prog 15 #[.agg #[.int .i64 d.1, .int .i64 d.2.1, .bool d.2.2], .int .i64 k, .int .i64 n, .string s] w fun e w' => e = .returned (.string (readR d k n s)) ∧ Below w.heap.size w w' := by
  obtain ⟨o, f, i⟩ := d
  dsimp only
  have hb0 : Below w.heap.size w (w.alloc (.cells #[.int .i64 o, .int .i64 f, .bool i] 34)) := (Below.refl _ _).alloc (Nat.le_refl _) _
  have hob := OwnRow.fresh w #[.int .i64 o, .int .i64 f, .bool i] 34
  have HOW := Lib.hid hob
  have HB := Lib.hid hb0
  have HT := Lib.hid (ref_ValidType k n (w.alloc (.cells #[.int .i64 o, .int .i64 f, .bool i] 34)))
  have hz : w.heap.size < (w.alloc (.cells #[.int .i64 o, .int .i64 f, .bool i] 34)).heap.size := by simp
  have d0 := hob.cell (j := 0) rfl
  have d1 := hob.cell (j := 1) rfl
  generalize hw0 : w.alloc (.cells #[.int .i64 o, .int .i64 f, .bool i] 34) = w0 at HOW HB HT hz d0 d1
  clear hb0 hob
  cases hv : vt k n
  · have HR := Lib.hid (show (⟨#[]⟩ : ByteArray) = readR (o, f, i) k n s by unfold readR; rw [if_pos hv])
    rw [hv] at HT
    clear hv
    go_enter Tryz.func15, Tryz.ntmps15
    go_wp2_with fail
    refine HT.out.mono ?_
    rintro e w1 ⟨rfl, rfl⟩
    go_wp2_with fail
    go_ret
    exact ⟨ret_str HR.out, HB.out⟩
  rw [hv] at HT
  by_cases ho : o = -1
  · have HR := Lib.hid (show vi k n = readR (o, f, i) k n s by unfold readR; rw [if_neg (by rw [hv]; simp), if_pos ho])
    subst ho
    clear hv
    go_enter Tryz.func15, Tryz.ntmps15
    go_wp2_with fail
    refine HT.out.mono ?_
    rintro e w1 ⟨rfl, rfl⟩
    go_wp2_with fail
    refine (ref_vInitial k n _).mono ?_
    rintro e w2 ⟨rfl, hb2⟩
    go_wp2_with fail
    go_ret
    exact ⟨ret_str HR.out, ext_trans HB.out hb2⟩
  have hob : (o == -1) = false := by rw [beq_eq_false_iff_ne]; exact ho
  by_cases hk : k ≠ 0
  · have HR := Lib.hid (show (if vv k n s = true then s else ⟨#[]⟩) = readR (o, f, i) k n s by simp [readR, hv, ho, hk])
    have hkb : (k != 0) = true := by rw [bne_iff_ne]; exact hk
    clear hv hk
    go_enter Tryz.func15, Tryz.ntmps15
    go_wp2_with fail
    refine HT.out.mono ?_
    rintro e w1 ⟨rfl, rfl⟩
    go_wp2_with fail
    refine (ref_vValid k n s _ hs).mono ?_
    rintro e w2 ⟨rfl, hb2⟩
    cases hvv : vv k n s
    · rw [if_neg (by rw [hvv]; simp)] at HR
      clear hvv
      go_wp2_with fail
      go_ret
      exact ⟨ret_str HR.out, ext_trans HB.out hb2⟩
    · rw [if_pos hvv] at HR
      clear hvv
      go_wp2_with fail
      go_ret
      exact ⟨ret_str HR.out, ext_trans HB.out hb2⟩
  obtain rfl : k = 0 := Classical.not_not.1 hk
  have HR := Lib.hid (show (if (slR s f n).2 ≠ 0 then ⟨#[]⟩ else bvX i (slR s f n).1) = readR (o, f, i) 0 n s by simp [readR, hv, ho])
  clear hv hk
  go_enter Tryz.func15, Tryz.ntmps15
  go_wp2_with fail
  refine HT.out.mono ?_
  rintro e w1 ⟨rfl, rfl⟩
  go_wp2_with fail
  have hsl := slR_size s f n hs
  refine (ref_Slice s f n _ hs).mono ?_
  rintro e w3 ⟨rfl, hb3⟩
  generalize slR s f n = r at HR hsl ⊢
  obtain ⟨x, q⟩ := r
  dsimp only at HR hsl ⊢
  have d2 := (HOW.out.below hb3 hz).cell (j := 2) rfl
  clear d1
  by_cases hq : q ≠ 0
  · rw [if_pos hq] at HR
    have hqb : (q != 0) = true := by rw [bne_iff_ne]; exact hq
    clear hq
    go_wp2_with fail
    go_ret
    exact ⟨ret_str HR.out, ext_trans HB.out hb3⟩
  · rw [if_neg hq] at HR
    have hqb : (q != 0) = false := by rw [bne_eq_false_iff_eq]; omega
    clear hq
    cases i
    · go_wp2_with fail
      go_ret
      exact ⟨ret_str HR.out, ext_trans HB.out hb3⟩
    · go_wp2_with fail
      refine (ref_Inverse x _ hsl).mono ?_
      rintro e w4 ⟨rfl, hb4⟩
      go_wp2_with fail
      go_ret
      exact ⟨ret_str HR.out, ext_trans (ext_trans HB.out hb3) hb4⟩

set_option maxHeartbeats 800000 in
set_option maxRecDepth 100000 in
theorem ref_possible (d : Dv) (x st : Sg) (u v : Value) (w : World) (hu : ∃ a n c, u = .slice a n c) (hv : ∃ a n c, v = .slice a n c) (hx : 0 ≤ x.2.1 ∧ x.2.1 ≤ 128) (hst : 0 ≤ st.2.1 ∧ st.2.1 ≤ 128) :
    Calls Tryz.prog 59 #[.agg #[.int .i64 d.1, .int .i64 d.2.1, .bool d.2.2], .agg #[.int .i64 x.1, .int .i64 x.2.1, u], .agg #[.int .i64 st.1, .int .i64 st.2.1, v]] w fun e w' => e = .returned (.bool (possR d x st)) ∧ Below w.heap.size w w' := by
  obtain ⟨o, f, i⟩ := d
  obtain ⟨k, n, l⟩ := x
  obtain ⟨k2, n2, l2⟩ := st
  obtain ⟨ua, un, uc, rfl⟩ := hu
  obtain ⟨va, vn, vc, rfl⟩ := hv
  dsimp only at hx hst ⊢
  have hb2 : Below w.heap.size w (((w.alloc (.cells #[.int .i64 o, .int .i64 f, .bool i] 34)).alloc (.cells #[.int .i64 k, .int .i64 n, .slice ua un uc] 37)).alloc (.cells #[.int .i64 k2, .int .i64 n2, .slice va vn vc] 37)) := (((Below.refl _ _).alloc (Nat.le_refl _) _).alloc (by simp) _).alloc (by simp; omega) _
  have HB := Lib.hid hb2
  clear hb2
  by_cases h1 : k ≠ k2
  · have HR := Lib.hid (show false = possR (o, f, i) (k, n, l) (k2, n2, l2) by unfold possR; rw [decide_eq_false h1, Bool.false_and])
    have h1b : (k != k2) = true := by rw [bne_iff_ne]; exact h1
    clear h1
    go_enter Tryz.func59, Tryz.ntmps59
    go_wp2_with fail
    go_ret
    exact ⟨ret_bool HR.out, by first | exact HB.out | exact below_drewN HB.out _⟩
  obtain rfl : k = k2 := Classical.not_not.1 h1
  have h1b : (k != k) = false := by simp
  by_cases h2 : k ≠ 0
  · have h2b : (k != 0) = true := by rw [bne_iff_ne]; exact h2
    have HR := Lib.hid (show (decide (f = 0) && !i) = possR (o, f, i) (k, n, l) (k, n2, l2) by unfold possR; rw [if_pos h2]; simp)
    clear h1 h2
    by_cases hf : f = 0
    · subst hf
      have HR2 := Lib.hid (show (!i) = _ from (show (!i) = (decide ((0 : Int) = 0) && !i) by simp).trans HR.out)
      go_enter Tryz.func59, Tryz.ntmps59
      go_wp2_with fail
      go_ret
      exact ⟨ret_bool HR2.out, by first | exact HB.out | exact below_drewN HB.out _⟩
    · have hfb : (f == 0) = false := by rw [beq_eq_false_iff_ne]; exact hf
      have HR2 := Lib.hid (show false = _ from (show false = (decide (f = 0) && !i) by simp [hf]).trans HR.out)
      clear hf
      go_enter Tryz.func59, Tryz.ntmps59
      go_wp2_with fail
      go_ret
      exact ⟨ret_bool HR2.out, by first | exact HB.out | exact below_drewN HB.out _⟩
  obtain rfl : k = 0 := Classical.not_not.1 h2
  have hww : IntKind.i64.wrap (n2 - n) = n2 - n := IntWalk.i64_in _ (by omega)
  have HR := Lib.hid (show (decide (0 ≤ f) && decide (f ≤ n2 - n)) = possR (o, f, i) (0, n, l) (0, n2, l2) by unfold possR; simp)
  clear h1 h2
  by_cases hf : 0 ≤ f
  · have hfb : decide (0 ≤ f) = true := by rw [decide_eq_true_iff]; exact hf
    have HR2 := Lib.hid ((show decide (f ≤ n2 - n) = (decide (0 ≤ f) && decide (f ≤ n2 - n)) by rw [hfb, Bool.true_and]).trans HR.out)
    clear hf
    go_enter Tryz.func59, Tryz.ntmps59
    go_wp2_with fail
    go_ret
    exact ⟨ret_bool HR2.out, by first | exact HB.out | exact below_drewN HB.out _⟩
  · have hfb : decide (0 ≤ f) = false := by rw [decide_eq_false_iff_not]; exact hf
    have HR2 := Lib.hid ((show false = (decide (0 ≤ f) && decide (f ≤ n2 - n)) by rw [hfb, Bool.false_and]).trans HR.out)
    clear hf
    go_enter Tryz.func59, Tryz.ntmps59
    go_wp2_with fail
    go_ret
    exact ⟨ret_bool HR2.out, by first | exact HB.out | exact below_drewN HB.out _⟩
end Go.Proofs.YtimeilkelnljnaaGreatDoor
