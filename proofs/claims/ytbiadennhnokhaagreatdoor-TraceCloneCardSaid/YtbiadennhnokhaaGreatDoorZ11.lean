import Derived.Test.YtbiadennhnokhaaGreatDoorZ09
import Derived.Deep.RegionHeld3
import Derived.Lib.LazyBuf
namespace Go.Proofs.YtbiadennhnokhaaGreatDoor
open Go.RowKit

set_option maxHeartbeats 400000 in
theorem sig_first1 (c : Ch) (t : Int) (w : World) :
    Calls Tryz.prog 150 #[.agg #[.int .i64 c.1, .string c.2], .int .i64 t] w fun e w' => e = .returned (.int .i64 (Lib.compareInt c.1 t)) ∧ Below w.heap.size w w' := by
  go_enter Tryz.func150, Tryz.ntmps150
  go_wp2_with fail
  refine (Tryz.cmp_Compare_int _ _ _).mono ?_
  rintro e w1 ⟨rfl, hw⟩
  have hw' := hw.symm
  subst hw'
  go_wp2_with fail
  go_ret
  exact ⟨rfl, (Below.refl _ _).alloc (Nat.le_refl _) _⟩

/-- the changes are sorted strictly by their times -/
def Sorted (l : List Ch) : Prop := ∀ i j (hi : i < l.length) (hj : j < l.length), i < j → l[i].1 < l[j].1
/-- how many changes are before a time -/
def lo (l : List Ch) (t : Int) : Nat := (l.takeWhile (fun c => decide (c.1 < t))).length
theorem lo_le (l : List Ch) (t : Int) : lo l t ≤ l.length := List.Sublist.length_le (List.takeWhile_sublist _)
theorem lo_lt (l : List Ch) (t : Int) (hs : Sorted l) (h : Nat) (hh : h < l.length) : l[h].1 < t ↔ h < lo l t := by
  constructor
  · intro h1
    rcases Nat.lt_or_ge h (lo l t) with h2 | h2
    · exact h2
    · exfalso
      have hlt : lo l t < l.length := by omega
      have := takeWhile_end (fun c : Ch => decide (c.1 < t)) l l[lo l t] (List.getElem?_eq_getElem hlt)
      simp at this
      rcases Nat.lt_or_ge (lo l t) h with h3 | h3
      · have := hs _ _ hlt hh h3; omega
      · obtain rfl : h = lo l t := by omega
        omega
  · intro h1
    obtain ⟨x, hx, hp⟩ := takeWhile_at (fun c : Ch => decide (c.1 < t)) l h h1
    rw [List.getElem?_eq_getElem hh] at hx
    rw [Option.some.inj hx]
    simpa using hp

set_option maxHeartbeats 800000 in
set_option maxRecDepth 100000 in
theorem bin_search (v : Value) (l : List Ch) (t : Int) (w : World) (hs : SlR w v l.length (chs l)) (hl : l.length ≤ 1000000) (hst : Sorted l) :
    Calls Tryz.prog 149 #[v, .int .i64 t, .func (.func 150) #[] #[]] w fun e w' => (∃ b, e = .returned (.tuple #[.int .i64 (lo l t), .bool b])) ∧ Below w.heap.size w w' := by
  obtain ⟨a, cap, rfl, hc, hm⟩ := hs.shape
  unfold maxLen at hm
  have HS := Lib.hid hs
  have HT := Lib.hid hst
  clear hs hst
  go_enter Tryz.func149, Tryz.ntmps149
  go_wp2_with fail
  go_loopw [9, 10, 11] (fun i_ j_ _ wr => ∃ (i j : Nat), i_ = .int .i64 i ∧ j_ = .int .i64 j ∧ i ≤ lo l t ∧ lo l t ≤ j ∧ j ≤ l.length ∧ Below w.heap.size w wr)
    (fun i_ j_ _ _ => (intOf j_).toNat - (intOf i_).toNat)
  case atStart => exact ⟨0, l.length, rfl, rfl, Nat.zero_le _, lo_le _ _, Nat.le_refl _, Below.refl _ _⟩
  case round =>
    obtain ⟨i, j, rfl, rfl, h1, h2, h3, hb⟩ := hrel
    by_cases hlt : i < j
    · have hh : (i + j) / 2 < l.length := by omega
      obtain ⟨b, o, rfl, d0, d1⟩ := (HS.out.below hb).ch hh
      have HLO := Lib.hid (lo_lt l t HT.out _ hh)
      generalize l[(i+j)/2] = c at d0 d1 HLO
      go_wp2_with fail
      refine (sig_first1 c t _).mono ?_
      rintro e w3 ⟨rfl, hb3⟩
      by_cases hct : c.1 < t
      · have hcmp : Lib.compareInt c.1 t = -1 := by unfold Lib.compareInt; rw [if_pos hct]
        have hil := (HLO.out).1 hct
        rw [hcmp]
        clear hcmp
        go_wp2_with fail
        go_roundw
        case rel => exact ⟨(i + j) / 2 + 1, j, by go_num, rfl, by omega, h2, h3, ext_trans hb hb3⟩
        case measure => simp [intOf]; omega
      · have hcmp : 0 ≤ Lib.compareInt c.1 t := by unfold Lib.compareInt; rw [if_neg hct]; split <;> decide
        have hil : lo l t ≤ (i + j) / 2 := by
          rcases Nat.lt_or_ge ((i + j) / 2) (lo l t) with h | h
          · exact absurd (HLO.out.2 h) hct
          · exact h
        go_wp2_with fail
        go_roundw
        case rel => exact ⟨i, (i + j) / 2, rfl, by go_num, h1, hil, by omega, ext_trans hb hb3⟩
        case measure => simp [intOf]; omega
    · obtain rfl : i = lo l t := by omega
      by_cases hlo : lo l t < l.length
      · obtain ⟨b, o, rfl, d0, d1⟩ := (HS.out.below hb).ch hlo
        generalize l[lo l t] = c at d0 d1
        go_wp2_with fail
        refine (sig_first1 c t _).mono ?_
        rintro e w3 ⟨rfl, hb3⟩
        go_wp2_with fail
        go_ret2
        exact ⟨⟨_, rfl⟩, ext_trans hb hb3⟩
      · go_wp2_with fail
        go_ret2
        exact ⟨⟨_, rfl⟩, hb⟩
end Go.Proofs.YtbiadennhnokhaaGreatDoor

namespace Go.Proofs.YtbiadennhnokhaaGreatDoor
open Go.RowKit

set_option maxHeartbeats 400000 in
theorem sig_first (k n : Int) (v : Value) (l : List Ch) (t : Int) (w : World) (hs : SlR w v l.length (chs l)) (hl : l.length ≤ 1000000) (hst : Sorted l) :
    Calls Tryz.prog 98 #[.agg #[.int .i64 k, .int .i64 n, v], .int .i64 t] w fun e w' => e = .returned (.int .i64 (lo l t)) ∧ Below w.heap.size w w' := by
  obtain ⟨a, cap, rfl, hc, hm⟩ := hs.shape
  have HB := Lib.hid (bin_search _ l t _ (hs.below ((Below.refl _ w).alloc (Nat.le_refl _) (.cells #[.int .i64 k, .int .i64 n, .slice a l.length cap] 45))) hl hst)
  clear hs hst
  go_enter Tryz.func98, Tryz.ntmps98
  go_wp2_with fail
  refine HB.out.mono ?_
  rintro e w1 ⟨⟨b, rfl⟩, hb⟩
  go_wp2_with fail
  go_ret
  exact ⟨rfl, ext_alloc hb⟩

def valAt (k n : Int) (l : List Ch) (t : Int) : ByteArray := if k = 3 then vi k n else match lo l (t + 1) with | 0 => vi k n | j + 1 => (l.getD j (0, ⟨#[]⟩)).2

set_option maxHeartbeats 400000 in
set_option maxRecDepth 100000 in
theorem sig_at (k n : Int) (v : Value) (l : List Ch) (t : Int) (w : World) (hs : SlR w v l.length (chs l)) (hl : l.length ≤ 1000000) (hst : Sorted l) (ht0 : -1000000000000000 ≤ t) (ht1 : t ≤ 1000000000000000) :
    Calls Tryz.prog 85 #[.agg #[.int .i64 k, .int .i64 n, v], .int .i64 t] w fun e w' => e = .returned (.string (valAt k n l t)) ∧ Below w.heap.size w w' := by
  obtain ⟨a, cap, rfl, hc, hm⟩ := hs.shape
  unfold maxLen at hm
  have hbw : Below w.heap.size w (w.alloc (.cells #[.int .i64 k, .int .i64 n, .slice a l.length cap] 45)) := (Below.refl _ w).alloc (Nat.le_refl _) _
  have HF := Lib.hid (sig_first k n _ l (t + 1) _ (hs.below hbw) hl hst)
  have HS := Lib.hid hs
  have hlo := lo_le l (t + 1)
  clear hs hst hbw
  by_cases hk : k = 3
  · have HV := Lib.hid (show valAt k n l t = vi k n by unfold valAt; rw [if_pos hk])
    subst hk
    go_enter Tryz.func85, Tryz.ntmps85
    go_wp2_with fail
    refine HF.out.mono ?_
    rintro e w1 ⟨rfl, hb⟩
    obtain ⟨c0, c1, c2⟩ := box3 hb
    go_wp2_with fail
    refine (val_Initial _ _ _).mono ?_
    rintro e w2 ⟨rfl, hb2⟩
    go_wp2_with fail
    go_ret
    exact ⟨ret_str HV.out.symm, ext_trans (ext_alloc hb) hb2⟩
  have hk3 : (k == 3) = false := by rw [beq_eq_false_iff_ne]; exact hk
  cases hq : lo l (t + 1) with
  | zero =>
    have HV := Lib.hid (show valAt k n l t = vi k n by unfold valAt; rw [if_neg hk, hq])
    have HQ := Lib.hid hq
    clear hk hq
    go_enter Tryz.func85, Tryz.ntmps85
    go_wp2_with fail
    refine HF.out.mono ?_
    rintro e w1 ⟨rfl, hb⟩
    rw [HQ.out]
    obtain ⟨c0, c1, c2⟩ := box3 hb
    go_wp2_with fail
    refine (val_Initial _ _ _).mono ?_
    rintro e w2 ⟨rfl, hb2⟩
    go_wp2_with fail
    go_ret
    exact ⟨ret_str HV.out.symm, ext_trans (ext_alloc hb) hb2⟩
  | succ j =>
    have hj : j < l.length := by omega
    have HV := Lib.hid (show valAt k n l t = l[j].2 by
      unfold valAt
      rw [if_neg hk, hq]
      simp only [List.getD_eq_getElem?_getD, List.getElem?_eq_getElem hj, Option.getD_some])
    have HQ := Lib.hid hq
    clear hk hq
    have hne : (((j + 1 : Nat) : Int) == 0) = false := by rw [beq_eq_false_iff_ne]; omega
    go_enter Tryz.func85, Tryz.ntmps85
    go_wp2_with fail
    refine HF.out.mono ?_
    rintro e w1 ⟨rfl, hb⟩
    rw [HQ.out]
    obtain ⟨c0, c1, c2⟩ := box3 hb
    obtain ⟨b, o, rfl, d0, d1⟩ := (HS.out.below (ext_alloc hb)).ch hj
    generalize l[j] = c at d0 d1 HV
    go_wp2_with fail
    go_ret
    exact ⟨ret_str HV.out.symm, ext_alloc hb⟩

end Go.Proofs.YtbiadennhnokhaaGreatDoor

namespace Go.Proofs.YtbiadennhnokhaaGreatDoor
open Go.RowKit

theorem svGo_sorted (k n : Int) : ∀ (l : List Ch) (a : Int) (v : ByteArray), svGo k n a v l = true → (∀ j (hj : j < l.length), a < l[j].1 ∧ l[j].1 ≤ 1099511627776 ∧ vv k n l[j].2 = true) ∧ Sorted l
  | [], a, v, _ => ⟨fun j hj => by simp at hj, fun i j hi => by simp at hi⟩
  | c :: l, a, v, h => by
    unfold svGo at h
    split at h
    · cases h
    · rename_i h1
      split at h
      · cases h
      · rename_i h2
        split at h
        · cases h
        · obtain ⟨h3, h4⟩ := svGo_sorted k n l c.1 c.2 h
          refine ⟨fun j hj => ?_, fun i j hi hj hij => ?_⟩
          · cases j with
            | zero => exact ⟨by simp; omega, by simp; omega, by simpa using h2⟩
            | succ j =>
              have := h3 j (by simpa using hj)
              simp only [List.getElem_cons_succ]
              exact ⟨by omega, this.2⟩
          · cases j with
            | zero => omega
            | succ j =>
              cases i with
              | zero => simpa using (h3 j (by simpa using hj)).1
              | succ i => simpa using h4 i j (by simpa using hi) (by simpa using hj) (by omega)
theorem sv_sorted {k n : Int} {l : List Ch} (h : sv k n l = true) : Sorted l ∧ l.length ≤ 4096 ∧ vt k n = true ∧ ∀ j (hj : j < l.length), 0 ≤ l[j].1 ∧ l[j].1 ≤ 1099511627776 ∧ vv k n l[j].2 = true := by
  unfold sv at h
  rw [Bool.and_eq_true, Bool.and_eq_true, decide_eq_true_iff] at h
  obtain ⟨⟨h1, h2⟩, h3⟩ := h
  obtain ⟨h4, h5⟩ := svGo_sorted k n l _ _ h3
  exact ⟨h5, h2, h1, fun j hj => by have := h4 j hj; exact ⟨by omega, this.2⟩⟩

end Go.Proofs.YtbiadennhnokhaaGreatDoor

namespace Go.Proofs.YtbiadennhnokhaaGreatDoor
open Go.RowKit

/-- what At returns -/
def atR (k n : Int) (l : List Ch) (t : Int) : ByteArray × Int := if sv k n l = false then (⟨#[]⟩, 1) else if t < 0 ∨ 1099511627776 < t then (⟨#[]⟩, 2) else (valAt k n l t, 0)
set_option maxHeartbeats 400000 in
set_option maxRecDepth 100000 in
theorem sig_At (k n : Int) (v : Value) (l : List Ch) (t : Int) (w : World) (hg : Glob w) (hs : SlR w v l.length (chs l)) (hf : Fit l) :
    Calls Tryz.prog 28 #[.agg #[.int .i64 k, .int .i64 n, v], .int .i64 t] w fun e w' => e = .returned (.tuple #[.string (atR k n l t).1, .int .i64 (atR k n l t).2]) ∧ Below w.heap.size w w' := by
  obtain ⟨a, cap, rfl, hc, hm⟩ := hs.shape
  have hbw : Below w.heap.size w (w.alloc (.cells #[.int .i64 k, .int .i64 n, .slice a l.length cap] 45)) := (Below.refl _ _).alloc (Nat.le_refl _) _
  have HV := Lib.hid (sig_Valid k n _ l _ (hg.below hbw) (hs.below hbw) hf)
  have HS := Lib.hid hs
  have hln := hf.1
  unfold maxLen at hm
  clear hg hs hf hbw
  cases hv : sv k n l
  · have HR := Lib.hid (show atR k n l t = (⟨#[]⟩, 1) by unfold atR; rw [if_pos hv])
    go_enter Tryz.func28, Tryz.ntmps28
    go_wp2_with fail
    refine HV.out.mono ?_
    rintro e w1 ⟨rfl, hb⟩
    rw [hv]
    clear hv
    go_wp2_with fail
    go_ret2
    exact ⟨ret_str_int HR.out.symm, ext_alloc hb⟩
  obtain ⟨hst, -, -, -⟩ := sv_sorted hv
  by_cases ht : t < 0 ∨ 1099511627776 < t
  · have HR := Lib.hid (show atR k n l t = (⟨#[]⟩, 2) by unfold atR; rw [if_neg (by rw [hv]; simp), if_pos ht])
    clear hst
    go_enter Tryz.func28, Tryz.ntmps28
    go_wp2_with fail
    refine HV.out.mono ?_
    rintro e w1 ⟨rfl, hb⟩
    rw [hv]
    clear hv
    rcases ht with ht | ht
    all_goals
      go_wp2_with fail
    all_goals
      go_ret2
      exact ⟨ret_str_int HR.out.symm, ext_alloc hb⟩
  · have HR := Lib.hid (show atR k n l t = (valAt k n l t, 0) by unfold atR; rw [if_neg (by rw [hv]; simp), if_neg ht])
    obtain ⟨ht0, ht1⟩ : 0 ≤ t ∧ t ≤ 1099511627776 := by omega
    have HST := Lib.hid hst
    clear hst ht
    go_enter Tryz.func28, Tryz.ntmps28
    go_wp2_with fail
    refine HV.out.mono ?_
    rintro e w1 ⟨rfl, hb⟩
    obtain ⟨c0, c1, c2⟩ := box3 hb
    rw [hv]
    have HS1 := Lib.hid (HS.out.below (ext_alloc hb))
    clear hv
    go_wp2_with fail
    refine (sig_at k n _ l t _ HS1.out hln HST.out (by omega) (by omega)).mono ?_
    rintro e w2 ⟨rfl, hb2⟩
    go_wp2_with fail
    go_ret2
    exact ⟨ret_str_int HR.out.symm, ext_trans (ext_alloc hb) hb2⟩
end Go.Proofs.YtbiadennhnokhaaGreatDoor
namespace Go.Proofs.YtbiadennhnokhaaGreatDoor
open Go.RowKit

theorem change_info : (Tryz.prog.info? 53).map (fun i => (i.zero, i.size, i.bytes)) = some (some (.agg #[.int .i64 0, .string ⟨#[]⟩]), 2, 24) := by kernel_rfl
theorem chs_one (l : List Ch) : ∀ u ∈ chs l, u.oneCell' = true := by
  induction l with
  | nil => intro u hu; simp [chs] at hu
  | cons c l ih =>
    intro u hu
    rw [chs_cons] at hu
    rcases List.mem_cons.1 hu with rfl | hu
    · rfl
    rcases List.mem_cons.1 hu with rfl | hu
    · rfl
    · exact ih u hu
/-- the cells of a slice of changes, for append -/
theorem SlR.news {w : World} {ad : Addr} {n cap : Nat} {xs : List Value} (h : SlR w (.slice (some ad) n cap) n xs) (hx : n = 0 → xs = []) : ∀ j u, xs[j]? = some u → w.cell? (ad.add j) = some u := by
  intro j u hj
  rcases Nat.eq_zero_or_pos n with h0 | h0
  · rw [hx h0] at hj; simp at hj
  · obtain ⟨b, o, cap', hv, -, -, hc⟩ := h.at h0
    injection hv with e1 _ _
    injection e1 with e1
    subst e1
    rw [addr_add]; exact hc j u hj
theorem chs_nil_of (l : List Ch) (h : l.length = 0) : chs l = [] := by rw [List.length_eq_zero_iff.1 h]; rfl

end Go.Proofs.YtbiadennhnokhaaGreatDoor
namespace Go.Proofs.YtbiadennhnokhaaGreatDoor
open Go.RowKit

def WinPost (r : List Ch) (w : World) (e : Ending) (w' : World) : Prop := ∃ v', e = .returned v' ∧ SlR w' v' r.length (chs r) ∧ Below w.heap.size w w'
theorem WinPost.nil {w W : World} (h : Below w.heap.size w W) : WinPost [] w (.returned (.slice none 0 0)) W := ⟨_, rfl, SlR.nil _, h⟩

/-- a part of a slice of changes -/
theorem SlR.part {w : World} {b o cap : Nat} {l : List Ch} (h : SlR w (.slice (some ⟨b, o, none⟩) l.length cap) l.length (chs l)) (i j : Nat) (hij : i < j) (hj : j ≤ l.length) :
    SlR w (.slice (some ⟨b, o + i * 2, none⟩) (j - i) (cap - i)) ((l.take j).drop i).length (chs ((l.take j).drop i)) := by
  obtain ⟨b', o', cap', hv, h1, h2, hc⟩ := h.at (by omega)
  injection hv with e1 _ e3
  injection e1 with e1
  injection e1 with e1 e2 _
  subst e1 e2 e3
  have hl : ((l.take j).drop i).length = j - i := by simp; omega
  rw [hl]
  refine ⟨_, _, rfl, by omega, by omega, fun h => by simp at h, fun _ => ⟨b, o + i * 2, rfl, fun x u hx => ?_⟩⟩
  have hs : chs l = chs (l.take i) ++ (chs ((l.take j).drop i) ++ chs (l.drop j)) := by
    rw [← chs_append, ← chs_append]
    congr 1
    have h3 : l.take i = (l.take j).take i := by rw [List.take_take, Nat.min_eq_left (by omega)]
    rw [h3, ← List.append_assoc, List.take_append_drop, List.take_append_drop]
  have hx' := (List.getElem?_eq_some_iff.1 hx).1
  have h4 : (chs (l.take i)).length = i * 2 := by rw [chs_len]; simp; omega
  have := hc (i * 2 + x) u (by
    rw [hs, List.getElem?_append_right (by omega), h4, Nat.add_sub_cancel_left, List.getElem?_append_left hx']
    exact hx)
  rwa [← Nat.add_assoc] at this

end Go.Proofs.YtbiadennhnokhaaGreatDoor
