import Derived.Test.YtlbcfmhpkcpmaaaGreatDoorSig1
namespace Go.Proofs.YtlbcfmhpkcpmaaaGreatDoor
open Go.RowKit

set_option maxHeartbeats 400000 in
theorem sig_first1 (c : Ch) (t : Int) (w : World) :
    Calls Tryz.prog 80 #[.agg #[.int .i64 c.1, .string c.2], .int .i64 t] w fun e w' => e = .returned (.int .i64 (Lib.compareInt c.1 t)) ∧ Below w.heap.size w w' := by
  go_enter Tryz.func80, Tryz.ntmps80
  go_wp2_with fail
  refine (Tryz.cmp_Compare_int _ _ _).mono ?_
  rintro e w1 ⟨rfl, hw⟩
  have hw' := hw.symm
  subst hw'
  go_wp2_with fail
  go_ret
  exact ⟨rfl, (Below.refl _ _).alloc (Nat.le_refl _) _⟩

/-- the changes are sorted strictly by their times -/
def Sorted (l : List Ch) : Prop := ∀ i j (hi : i < l.length) (hj : j < l.length), i < j → l[i].1 < l[j].1
/-- how many changes are before a time -/
def lo (l : List Ch) (t : Int) : Nat := (l.takeWhile (fun c => decide (c.1 < t))).length
theorem lo_le (l : List Ch) (t : Int) : lo l t ≤ l.length := List.Sublist.length_le (List.takeWhile_sublist _)
theorem lo_lt (l : List Ch) (t : Int) (hs : Sorted l) (h : Nat) (hh : h < l.length) : l[h].1 < t ↔ h < lo l t := by
  constructor
  · intro h1
    rcases Nat.lt_or_ge h (lo l t) with h2 | h2
    · exact h2
    · exfalso
      have hlt : lo l t < l.length := by omega
      have := takeWhile_end (fun c : Ch => decide (c.1 < t)) l l[lo l t] (List.getElem?_eq_getElem hlt)
      simp at this
      rcases Nat.lt_or_ge (lo l t) h with h3 | h3
      · have := hs _ _ hlt hh h3; omega
      · obtain rfl : h = lo l t := by omega
        omega
  · intro h1
    obtain ⟨x, hx, hp⟩ := takeWhile_at (fun c : Ch => decide (c.1 < t)) l h h1
    rw [List.getElem?_eq_getElem hh] at hx
    rw [Option.some.inj hx]
    simpa using hp

set_option maxHeartbeats 800000 in
set_option maxRecDepth 100000 in
theorem bin_search (v : Value) (l : List Ch) (t : Int) (w : World) (hs : SlR w v l.length (chs l)) (hl : l.length ≤ 1000000) (hst : Sorted l) :
    Calls Tryz.prog 79 #[v, .int .i64 t, .func (.func 80) #[] #[]] w fun e w' => (∃ b, e = .returned (.tuple #[.int .i64 (lo l t), .bool b])) ∧ Below w.heap.size w w' := by
  obtain ⟨a, cap, rfl, hc, hm⟩ := hs.shape
  unfold maxLen at hm
  have HS := Lib.hid hs
  have HT := Lib.hid hst
  clear hs hst
  go_enter Tryz.func79, Tryz.ntmps79
  go_wp2_with fail
  go_loopw [9, 10, 11] (fun i_ j_ _ wr => ∃ (i j : Nat), i_ = .int .i64 i ∧ j_ = .int .i64 j ∧ i ≤ lo l t ∧ lo l t ≤ j ∧ j ≤ l.length ∧ Below w.heap.size w wr)
    (fun i_ j_ _ _ => (intOf j_).toNat - (intOf i_).toNat)
  case atStart => exact ⟨0, l.length, rfl, rfl, Nat.zero_le _, lo_le _ _, Nat.le_refl _, Below.refl _ _⟩
  case round =>
    obtain ⟨i, j, rfl, rfl, h1, h2, h3, hb⟩ := hrel
    by_cases hlt : i < j
    · have hh : (i + j) / 2 < l.length := by omega
      obtain ⟨b, o, rfl, d0, d1⟩ := (HS.out.below hb).ch hh
      have HLO := Lib.hid (lo_lt l t HT.out _ hh)
      generalize l[(i+j)/2] = c at d0 d1 HLO
      go_wp2_with fail
      refine (sig_first1 c t _).mono ?_
      rintro e w3 ⟨rfl, hb3⟩
      by_cases hct : c.1 < t
      · have hcmp : Lib.compareInt c.1 t = -1 := by unfold Lib.compareInt; rw [if_pos hct]
        have hil := (HLO.out).1 hct
        rw [hcmp]
        clear hcmp
        go_wp2_with fail
        go_roundw
        case rel => exact ⟨(i + j) / 2 + 1, j, by go_num, rfl, by omega, h2, h3, ext_trans hb hb3⟩
        case measure => simp [intOf]; omega
      · have hcmp : 0 ≤ Lib.compareInt c.1 t := by unfold Lib.compareInt; rw [if_neg hct]; split <;> decide
        have hil : lo l t ≤ (i + j) / 2 := by
          rcases Nat.lt_or_ge ((i + j) / 2) (lo l t) with h | h
          · exact absurd (HLO.out.2 h) hct
          · exact h
        go_wp2_with fail
        go_roundw
        case rel => exact ⟨i, (i + j) / 2, rfl, by go_num, h1, hil, by omega, ext_trans hb hb3⟩
        case measure => simp [intOf]; omega
    · obtain rfl : i = lo l t := by omega
      by_cases hlo : lo l t < l.length
      · obtain ⟨b, o, rfl, d0, d1⟩ := (HS.out.below hb).ch hlo
        generalize l[lo l t] = c at d0 d1
        go_wp2_with fail
        refine (sig_first1 c t _).mono ?_
        rintro e w3 ⟨rfl, hb3⟩
        go_wp2_with fail
        go_ret2
        exact ⟨⟨_, rfl⟩, ext_trans hb hb3⟩
      · go_wp2_with fail
        go_ret2
        exact ⟨⟨_, rfl⟩, hb⟩
end Go.Proofs.YtlbcfmhpkcpmaaaGreatDoor
