import Derived.Test.YtlbcfmhpkcpmaaaGreatDoorSig1
import Derived.Deep.RegionHeld3
namespace Go.Proofs.YtlbcfmhpkcpmaaaGreatDoor
open Go.RowKit

set_option maxHeartbeats 400000 in
theorem sig_first1 (c : Ch) (t : Int) (w : World) :
    Calls Tryz.prog 80 #[.agg #[.int .i64 c.1, .string c.2], .int .i64 t] w fun e w' => e = .returned (.int .i64 (Lib.compareInt c.1 t)) ∧ Below w.heap.size w w' := by
  go_enter Tryz.func80, Tryz.ntmps80
  go_wp2_with fail
  refine (Tryz.cmp_Compare_int _ _ _).mono ?_
  rintro e w1 ⟨rfl, hw⟩
  have hw' := hw.symm
  subst hw'
  go_wp2_with fail
  go_ret
  exact ⟨rfl, (Below.refl _ _).alloc (Nat.le_refl _) _⟩

/-- the changes are sorted strictly by their times -/
def Sorted (l : List Ch) : Prop := ∀ i j (hi : i < l.length) (hj : j < l.length), i < j → l[i].1 < l[j].1
/-- how many changes are before a time -/
def lo (l : List Ch) (t : Int) : Nat := (l.takeWhile (fun c => decide (c.1 < t))).length
theorem lo_le (l : List Ch) (t : Int) : lo l t ≤ l.length := List.Sublist.length_le (List.takeWhile_sublist _)
theorem lo_lt (l : List Ch) (t : Int) (hs : Sorted l) (h : Nat) (hh : h < l.length) : l[h].1 < t ↔ h < lo l t := by
  constructor
  · intro h1
    rcases Nat.lt_or_ge h (lo l t) with h2 | h2
    · exact h2
    · exfalso
      have hlt : lo l t < l.length := by omega
      have := takeWhile_end (fun c : Ch => decide (c.1 < t)) l l[lo l t] (List.getElem?_eq_getElem hlt)
      simp at this
      rcases Nat.lt_or_ge (lo l t) h with h3 | h3
      · have := hs _ _ hlt hh h3; omega
      · obtain rfl : h = lo l t := by omega
        omega
  · intro h1
    obtain ⟨x, hx, hp⟩ := takeWhile_at (fun c : Ch => decide (c.1 < t)) l h h1
    rw [List.getElem?_eq_getElem hh] at hx
    rw [Option.some.inj hx]
    simpa using hp

set_option maxHeartbeats 800000 in
set_option maxRecDepth 100000 in
theorem bin_search (v : Value) (l : List Ch) (t : Int) (w : World) (hs : SlR w v l.length (chs l)) (hl : l.length ≤ 1000000) (hst : Sorted l) :
    Calls Tryz.prog 79 #[v, .int .i64 t, .func (.func 80) #[] #[]] w fun e w' => (∃ b, e = .returned (.tuple #[.int .i64 (lo l t), .bool b])) ∧ Below w.heap.size w w' := by
  obtain ⟨a, cap, rfl, hc, hm⟩ := hs.shape
  unfold maxLen at hm
  have HS := Lib.hid hs
  have HT := Lib.hid hst
  clear hs hst
  go_enter Tryz.func79, Tryz.ntmps79
  go_wp2_with fail
  go_loopw [9, 10, 11] (fun i_ j_ _ wr => ∃ (i j : Nat), i_ = .int .i64 i ∧ j_ = .int .i64 j ∧ i ≤ lo l t ∧ lo l t ≤ j ∧ j ≤ l.length ∧ Below w.heap.size w wr)
    (fun i_ j_ _ _ => (intOf j_).toNat - (intOf i_).toNat)
  case atStart => exact ⟨0, l.length, rfl, rfl, Nat.zero_le _, lo_le _ _, Nat.le_refl _, Below.refl _ _⟩
  case round =>
    obtain ⟨i, j, rfl, rfl, h1, h2, h3, hb⟩ := hrel
    by_cases hlt : i < j
    · have hh : (i + j) / 2 < l.length := by omega
      obtain ⟨b, o, rfl, d0, d1⟩ := (HS.out.below hb).ch hh
      have HLO := Lib.hid (lo_lt l t HT.out _ hh)
      generalize l[(i+j)/2] = c at d0 d1 HLO
      go_wp2_with fail
      refine (sig_first1 c t _).mono ?_
      rintro e w3 ⟨rfl, hb3⟩
      by_cases hct : c.1 < t
      · have hcmp : Lib.compareInt c.1 t = -1 := by unfold Lib.compareInt; rw [if_pos hct]
        have hil := (HLO.out).1 hct
        rw [hcmp]
        clear hcmp
        go_wp2_with fail
        go_roundw
        case rel => exact ⟨(i + j) / 2 + 1, j, by go_num, rfl, by omega, h2, h3, ext_trans hb hb3⟩
        case measure => simp [intOf]; omega
      · have hcmp : 0 ≤ Lib.compareInt c.1 t := by unfold Lib.compareInt; rw [if_neg hct]; split <;> decide
        have hil : lo l t ≤ (i + j) / 2 := by
          rcases Nat.lt_or_ge ((i + j) / 2) (lo l t) with h | h
          · exact absurd (HLO.out.2 h) hct
          · exact h
        go_wp2_with fail
        go_roundw
        case rel => exact ⟨i, (i + j) / 2, rfl, by go_num, h1, hil, by omega, ext_trans hb hb3⟩
        case measure => simp [intOf]; omega
    · obtain rfl : i = lo l t := by omega
      by_cases hlo : lo l t < l.length
      · obtain ⟨b, o, rfl, d0, d1⟩ := (HS.out.below hb).ch hlo
        generalize l[lo l t] = c at d0 d1
        go_wp2_with fail
        refine (sig_first1 c t _).mono ?_
        rintro e w3 ⟨rfl, hb3⟩
        go_wp2_with fail
        go_ret2
        exact ⟨⟨_, rfl⟩, ext_trans hb hb3⟩
      · go_wp2_with fail
        go_ret2
        exact ⟨⟨_, rfl⟩, hb⟩
end Go.Proofs.YtlbcfmhpkcpmaaaGreatDoor

namespace Go.Proofs.YtlbcfmhpkcpmaaaGreatDoor
open Go.RowKit

set_option maxHeartbeats 400000 in
theorem sig_first (k n : Int) (v : Value) (l : List Ch) (t : Int) (w : World) (hs : SlR w v l.length (chs l)) (hl : l.length ≤ 1000000) (hst : Sorted l) :
    Calls Tryz.prog 57 #[.agg #[.int .i64 k, .int .i64 n, v], .int .i64 t] w fun e w' => e = .returned (.int .i64 (lo l t)) ∧ Below w.heap.size w w' := by
  obtain ⟨a, cap, rfl, hc, hm⟩ := hs.shape
  have HB := Lib.hid (bin_search _ l t _ (hs.below ((Below.refl _ w).alloc (Nat.le_refl _) (.cells #[.int .i64 k, .int .i64 n, .slice a l.length cap] 24))) hl hst)
  clear hs hst
  go_enter Tryz.func57, Tryz.ntmps57
  go_wp2_with fail
  refine HB.out.mono ?_
  rintro e w1 ⟨⟨b, rfl⟩, hb⟩
  go_wp2_with fail
  go_ret
  exact ⟨rfl, ext_alloc hb⟩

def valAt (k n : Int) (l : List Ch) (t : Int) : ByteArray := if k = 3 then vi k n else match lo l (t + 1) with | 0 => vi k n | j + 1 => (l.getD j (0, ⟨#[]⟩)).2

set_option maxHeartbeats 400000 in
set_option maxRecDepth 100000 in
theorem sig_at (k n : Int) (v : Value) (l : List Ch) (t : Int) (w : World) (hs : SlR w v l.length (chs l)) (hl : l.length ≤ 1000000) (hst : Sorted l) (ht0 : -1000000000000000 ≤ t) (ht1 : t ≤ 1000000000000000) :
    Calls Tryz.prog 54 #[.agg #[.int .i64 k, .int .i64 n, v], .int .i64 t] w fun e w' => e = .returned (.string (valAt k n l t)) ∧ Below w.heap.size w w' := by
  obtain ⟨a, cap, rfl, hc, hm⟩ := hs.shape
  unfold maxLen at hm
  have hbw : Below w.heap.size w (w.alloc (.cells #[.int .i64 k, .int .i64 n, .slice a l.length cap] 24)) := (Below.refl _ w).alloc (Nat.le_refl _) _
  have HF := Lib.hid (sig_first k n _ l (t + 1) _ (hs.below hbw) hl hst)
  have HS := Lib.hid hs
  have hlo := lo_le l (t + 1)
  clear hs hst hbw
  by_cases hk : k = 3
  · have HV := Lib.hid (show valAt k n l t = vi k n by unfold valAt; rw [if_pos hk])
    subst hk
    go_enter Tryz.func54, Tryz.ntmps54
    go_wp2_with fail
    refine HF.out.mono ?_
    rintro e w1 ⟨rfl, hb⟩
    obtain ⟨c0, c1, c2⟩ := box3 hb
    go_wp2_with fail
    refine (val_Initial _ _ _).mono ?_
    rintro e w2 ⟨rfl, hb2⟩
    go_wp2_with fail
    go_ret
    exact ⟨ret_str HV.out.symm, ext_trans (ext_alloc hb) hb2⟩
  have hk3 : (k == 3) = false := by rw [beq_eq_false_iff_ne]; exact hk
  cases hq : lo l (t + 1) with
  | zero =>
    have HV := Lib.hid (show valAt k n l t = vi k n by unfold valAt; rw [if_neg hk, hq])
    have HQ := Lib.hid hq
    clear hk hq
    go_enter Tryz.func54, Tryz.ntmps54
    go_wp2_with fail
    refine HF.out.mono ?_
    rintro e w1 ⟨rfl, hb⟩
    rw [HQ.out]
    obtain ⟨c0, c1, c2⟩ := box3 hb
    go_wp2_with fail
    refine (val_Initial _ _ _).mono ?_
    rintro e w2 ⟨rfl, hb2⟩
    go_wp2_with fail
    go_ret
    exact ⟨ret_str HV.out.symm, ext_trans (ext_alloc hb) hb2⟩
  | succ j =>
    have hj : j < l.length := by omega
    have HV := Lib.hid (show valAt k n l t = l[j].2 by
      unfold valAt
      rw [if_neg hk, hq]
      simp only [List.getD_eq_getElem?_getD, List.getElem?_eq_getElem hj, Option.getD_some])
    have HQ := Lib.hid hq
    clear hk hq
    have hne : (((j + 1 : Nat) : Int) == 0) = false := by rw [beq_eq_false_iff_ne]; omega
    go_enter Tryz.func54, Tryz.ntmps54
    go_wp2_with fail
    refine HF.out.mono ?_
    rintro e w1 ⟨rfl, hb⟩
    rw [HQ.out]
    obtain ⟨c0, c1, c2⟩ := box3 hb
    obtain ⟨b, o, rfl, d0, d1⟩ := (HS.out.below (ext_alloc hb)).ch hj
    generalize l[j] = c at d0 d1 HV
    go_wp2_with fail
    go_ret
    exact ⟨ret_str HV.out.symm, ext_alloc hb⟩

/-- the change with an index, if there is one -/
def chR (l : List Ch) (k : Int) : Ch × Int := if k < 0 then ((0, ⟨#[]⟩), 6) else match l[k.toNat]? with | none => ((0, ⟨#[]⟩), 6) | some c => (c, 0)
def ChPost (r : Ch × Int) (w : World) (e : Ending) (w' : World) : Prop := e = .returned (.tuple #[.agg #[.int .i64 r.1.1, .string r.1.2], .int .i64 r.2]) ∧ Below w.heap.size w w'

set_option maxHeartbeats 400000 in
set_option maxRecDepth 100000 in
theorem sig_change (k n : Int) (v : Value) (l : List Ch) (j : Int) (w : World) (hs : SlR w v l.length (chs l)) :
    Calls Tryz.prog 56 #[.agg #[.int .i64 k, .int .i64 n, v], .int .i64 j] w (ChPost (chR l j) w) := by
  obtain ⟨a, cap, rfl, hc, hm⟩ := hs.shape
  unfold maxLen at hm
  have HS := Lib.hid hs
  clear hs
  by_cases h0 : j < 0
  · have HR := Lib.hid (show chR l j = ((0, ⟨#[]⟩), 6) by unfold chR; rw [if_pos h0])
    go_enter Tryz.func56, Tryz.ntmps56
    go_wp2_with fail
    refine bodyPost_ret (v := .tuple #[.agg #[.int .i64 0, .string ⟨#[]⟩], .int .i64 6]) (by simp [results, Tryz.results56, go_sem]) rfl ⟨by rw [HR.out], ?_⟩
    exact ((Below.refl _ _).alloc (Nat.le_refl _) _).alloc (by simp) _
  obtain ⟨i, rfl⟩ := Int.eq_ofNat_of_zero_le (show 0 ≤ j by omega)
  clear h0
  by_cases h1 : i < l.length
  · have HR := Lib.hid (show chR l i = (l[i], 0) by unfold chR; rw [if_neg (by omega), Int.toNat_natCast, List.getElem?_eq_getElem h1])
    have hbw : Below w.heap.size w ((w.alloc (.cells #[.int .i64 k, .int .i64 n, .slice a l.length cap] 24)).alloc (.cells #[.int .i64 0, .string ⟨#[]⟩] 36)) := ((Below.refl _ _).alloc (Nat.le_refl _) _).alloc (by simp) _
    obtain ⟨b, o, rfl, d0, d1⟩ := (HS.out.below hbw).ch h1
    generalize l[i] = c at d0 d1 HR
    obtain ⟨t, s⟩ := c
    clear hbw
    go_enter Tryz.func56, Tryz.ntmps56
    go_wp2_with fail
    refine bodyPost_ret (v := .tuple #[.agg #[.int .i64 t, .string s], .int .i64 0]) (by simp [results, Tryz.results56, go_sem]) rfl ⟨by rw [HR.out], ?_⟩
    exact ((Below.refl _ _).alloc (Nat.le_refl _) _).alloc (by simp) _
  · have HR := Lib.hid (show chR l i = ((0, ⟨#[]⟩), 6) by unfold chR; rw [if_neg (by omega), Int.toNat_natCast, List.getElem?_eq_none (by omega)])
    have hd : decide (i < l.length) = false := by simpa using h1
    go_enter Tryz.func56, Tryz.ntmps56
    go_wp2_with fail
    refine bodyPost_ret (v := .tuple #[.agg #[.int .i64 0, .string ⟨#[]⟩], .int .i64 6]) (by simp [results, Tryz.results56, go_sem]) rfl ⟨by rw [HR.out], ?_⟩
    exact ((Below.refl _ _).alloc (Nat.le_refl _) _).alloc (by simp) _
end Go.Proofs.YtlbcfmhpkcpmaaaGreatDoor

namespace Go.Proofs.YtlbcfmhpkcpmaaaGreatDoor
open Go.RowKit

theorem svGo_sorted (k n : Int) : ∀ (l : List Ch) (a : Int) (v : ByteArray), svGo k n a v l = true → (∀ j (hj : j < l.length), a < l[j].1 ∧ l[j].1 ≤ 1099511627776 ∧ vv k n l[j].2 = true) ∧ Sorted l
  | [], a, v, _ => ⟨fun j hj => by simp at hj, fun i j hi => by simp at hi⟩
  | c :: l, a, v, h => by
    unfold svGo at h
    split at h
    · cases h
    · rename_i h1
      split at h
      · cases h
      · rename_i h2
        split at h
        · cases h
        · obtain ⟨h3, h4⟩ := svGo_sorted k n l c.1 c.2 h
          refine ⟨fun j hj => ?_, fun i j hi hj hij => ?_⟩
          · cases j with
            | zero => exact ⟨by simp; omega, by simp; omega, by simpa using h2⟩
            | succ j =>
              have := h3 j (by simpa using hj)
              simp only [List.getElem_cons_succ]
              exact ⟨by omega, this.2⟩
          · cases j with
            | zero => omega
            | succ j =>
              cases i with
              | zero => simpa using (h3 j (by simpa using hj)).1
              | succ i => simpa using h4 i j (by simpa using hi) (by simpa using hj) (by omega)
theorem sv_sorted {k n : Int} {l : List Ch} (h : sv k n l = true) : Sorted l ∧ l.length ≤ 4096 ∧ vt k n = true ∧ ∀ j (hj : j < l.length), 0 ≤ l[j].1 ∧ l[j].1 ≤ 1099511627776 ∧ vv k n l[j].2 = true := by
  unfold sv at h
  rw [Bool.and_eq_true, Bool.and_eq_true, decide_eq_true_iff] at h
  obtain ⟨⟨h1, h2⟩, h3⟩ := h
  obtain ⟨h4, h5⟩ := svGo_sorted k n l _ _ h3
  exact ⟨h5, h2, h1, fun j hj => by have := h4 j hj; exact ⟨by omega, this.2⟩⟩

theorem box2r {w W : World} {X : Obj} {x y : Value} {T : TypeId} (hb : Below ((w.alloc X).alloc (.cells #[x, y] T)).heap.size ((w.alloc X).alloc (.cells #[x, y] T)) W) :
    W.cell? ⟨w.heap.size + 1, 0, none⟩ = some x ∧ W.cell? ⟨w.heap.size + 1, 1, none⟩ = some y ∧ W.frozen? ⟨w.heap.size + 1, 0, none⟩ = false ∧ W.frozen? ⟨w.heap.size + 1, 1, none⟩ = false := by
  have h := fun i => boxN hb i
  simp only [World.size_alloc] at h
  exact ⟨(h 0).1, (h 1).1, (h 0).2, (h 1).2⟩
/-- what Next returns -/
def nextR (k n : Int) (l : List Ch) (t : Int) : Ch × Int := if sv k n l = false then ((0, ⟨#[]⟩), 1) else if t < -1 ∨ 1099511627776 < t then ((0, ⟨#[]⟩), 2) else chR l (lo l (t + 1))

set_option maxHeartbeats 400000 in
set_option maxRecDepth 100000 in
theorem sig_Next (k n : Int) (v : Value) (l : List Ch) (t : Int) (w : World) (hg : Glob w) (hs : SlR w v l.length (chs l)) (hf : Fit l) :
    Calls Tryz.prog 22 #[.agg #[.int .i64 k, .int .i64 n, v], .int .i64 t] w (ChPost (nextR k n l t) w) := by
  obtain ⟨a, cap, rfl, hc, hm⟩ := hs.shape
  have hbw : Below w.heap.size w ((w.alloc (.cells #[.int .i64 k, .int .i64 n, .slice a l.length cap] 24)).alloc (.cells #[.int .i64 0, .string ⟨#[]⟩] 36)) := ((Below.refl _ _).alloc (Nat.le_refl _) _).alloc (by simp) _
  have HV := Lib.hid (sig_Valid k n _ l _ (hg.below hbw) (hs.below hbw) hf)
  have HS := Lib.hid hs
  have hln := hf.1
  unfold maxLen at hm
  clear hg hs hf hbw
  cases hv : sv k n l
  · have HR := Lib.hid (show nextR k n l t = ((0, ⟨#[]⟩), 1) by unfold nextR; rw [if_pos hv])
    go_enter Tryz.func22, Tryz.ntmps22
    go_wp2_with fail
    refine HV.out.mono ?_
    rintro e w1 ⟨rfl, hb⟩
    have hb0 : Below (w.alloc (.cells #[.int .i64 k, .int .i64 n, .slice a l.length cap] 24)).heap.size (w.alloc (.cells #[.int .i64 k, .int .i64 n, .slice a l.length cap] 24)) w1 := ext_alloc hb
    obtain ⟨c0, c1, c2⟩ := box3 hb0
    obtain ⟨p0, p1, q0, q1⟩ := box2r hb
    rw [hv]
    clear hv
    go_wp2_with fail
    refine bodyPost_ret (v := .tuple #[.agg #[.int .i64 0, .string ⟨#[]⟩], .int .i64 1]) (by simp [results, Tryz.results22, go_sem, p0, p1]) rfl ⟨by rw [HR.out], ?_⟩
    exact ((ext_alloc hb0).setCell (by simp) _).setCell (by simp) _
  · obtain ⟨hst, -, -, -⟩ := sv_sorted hv
    by_cases ht : t < -1 ∨ 1099511627776 < t
    · have HR := Lib.hid (show nextR k n l t = ((0, ⟨#[]⟩), 2) by unfold nextR; rw [if_neg (by rw [hv]; simp), if_pos ht])
      clear hst
      go_enter Tryz.func22, Tryz.ntmps22
      go_wp2_with fail
      refine HV.out.mono ?_
      rintro e w1 ⟨rfl, hb⟩
      have hb0 : Below (w.alloc (.cells #[.int .i64 k, .int .i64 n, .slice a l.length cap] 24)).heap.size (w.alloc (.cells #[.int .i64 k, .int .i64 n, .slice a l.length cap] 24)) w1 := ext_alloc hb
      obtain ⟨c0, c1, c2⟩ := box3 hb0
      obtain ⟨p0, p1, q0, q1⟩ := box2r hb
      rw [hv]
      clear hv
      rcases ht with ht | ht
      all_goals
        go_wp2_with fail
      all_goals
        refine bodyPost_ret (v := .tuple #[.agg #[.int .i64 0, .string ⟨#[]⟩], .int .i64 2]) (by simp [results, Tryz.results22, go_sem, p0, p1]) rfl ⟨by rw [HR.out], ?_⟩
        exact ((ext_alloc hb0).setCell (by simp) _).setCell (by simp) _
    · have HR := Lib.hid (show nextR k n l t = chR l (lo l (t + 1)) by unfold nextR; rw [if_neg (by rw [hv]; simp), if_neg ht])
      obtain ⟨ht0, ht1⟩ : -1 ≤ t ∧ t ≤ 1099511627776 := by omega
      have HST := Lib.hid hst
      clear hst ht
      go_enter Tryz.func22, Tryz.ntmps22
      go_wp2_with fail
      refine HV.out.mono ?_
      rintro e w1 ⟨rfl, hb⟩
      have hb0 : Below (w.alloc (.cells #[.int .i64 k, .int .i64 n, .slice a l.length cap] 24)).heap.size (w.alloc (.cells #[.int .i64 k, .int .i64 n, .slice a l.length cap] 24)) w1 := ext_alloc hb
      obtain ⟨c0, c1, c2⟩ := box3 hb0
      obtain ⟨p0, p1, q0, q1⟩ := box2r hb
      rw [hv]
      have HS1 := Lib.hid (HS.out.below (ext_alloc hb0))
      have HB0 := Lib.hid (ext_alloc hb0)
      clear hv hb hb0
      have hwrap : IntKind.i64.wrap (t + 1) = t + 1 := IntWalk.i64_in _ (by omega)
      go_upto_region 5 with fail
      go_region_held3 (fun w' => w'.cell? ⟨w.heap.size, 0, none⟩ = some (.int .i64 k) ∧ w'.cell? ⟨w.heap.size, 1, none⟩ = some (.int .i64 n) ∧ w'.cell? ⟨w.heap.size, 2, none⟩ = some (.slice a l.length cap)) (first | exact ⟨r0, r1, r2⟩ | exact ⟨s0, s1, s2⟩ | go_keep)
        (first
          | (go_at_call 57; (with_reducible refine (sig_first k n _ l (t + 1) _ ?_ hln HST.out).mono ?_); (exact HS1.out); rintro e w2 ⟨rfl, hb2⟩; have s0 := (hb2.cell (p := ⟨w.heap.size, 0, none⟩) (cell_lt c0)).trans c0; have s1 := (hb2.cell (p := ⟨w.heap.size, 1, none⟩) (cell_lt c0)).trans c1; have s2 := (hb2.cell (p := ⟨w.heap.size, 2, none⟩) (cell_lt c0)).trans c2; have HB2 := Lib.hid hb2; clear hb2)
          | (go_at_call 56; (with_reducible refine (sig_change k n _ l (lo l (t + 1)) _ ?_).mono ?_); (exact SlR.below (w := w1.drew) HS1.out HB2.out); rintro e w3 ⟨rfl, hb3⟩; have hb23 := ext_trans HB2.out hb3; have r0 := (hb23.cell (p := ⟨w.heap.size, 0, none⟩) (cell_lt c0)).trans c0; have r1 := (hb23.cell (p := ⟨w.heap.size, 1, none⟩) (cell_lt c0)).trans c1; have r2 := (hb23.cell (p := ⟨w.heap.size, 2, none⟩) (cell_lt c0)).trans c2; have p0' := (hb23.cell (p := ⟨w.heap.size + 1, 0, none⟩) (cell_lt p0)).trans p0; have p1' := (hb23.cell (p := ⟨w.heap.size + 1, 1, none⟩) (cell_lt p0)).trans p1; have q0' := (hb23.frozen (p := ⟨w.heap.size + 1, 0, none⟩) (cell_lt p0)).trans q0; have q1' := (hb23.frozen (p := ⟨w.heap.size + 1, 1, none⟩) (cell_lt p0)).trans q1; have HB3 := Lib.hid hb23; clear hb23 hb3))
      go_wp2_with fail
      refine bodyPost_ret (v := .tuple #[.agg #[.int .i64 (chR l (lo l (t + 1))).1.1, .string (chR l (lo l (t + 1))).1.2], .int .i64 (chR l (lo l (t + 1))).2]) (by simp [results, Tryz.results22, go_sem, p0', p1']) rfl ⟨by rw [HR.out], ?_⟩
      exact ((ext_trans HB0.out.drew HB3.out).setCell (by simp) _).setCell (by simp) _

end Go.Proofs.YtlbcfmhpkcpmaaaGreatDoor

namespace Go.Proofs.YtlbcfmhpkcpmaaaGreatDoor
open Go.RowKit

/-- what Previous returns -/
def prevR (k n : Int) (l : List Ch) (t : Int) : Ch × Int := if sv k n l = false then ((0, ⟨#[]⟩), 1) else if t < 0 ∨ 1099511627777 < t then ((0, ⟨#[]⟩), 2) else chR l ((lo l t : Int) - 1)

set_option maxHeartbeats 400000 in
set_option maxRecDepth 100000 in
theorem sig_Previous (k n : Int) (v : Value) (l : List Ch) (t : Int) (w : World) (hg : Glob w) (hs : SlR w v l.length (chs l)) (hf : Fit l) :
    Calls Tryz.prog 24 #[.agg #[.int .i64 k, .int .i64 n, v], .int .i64 t] w (ChPost (prevR k n l t) w) := by
  obtain ⟨a, cap, rfl, hc, hm⟩ := hs.shape
  have hbw : Below w.heap.size w ((w.alloc (.cells #[.int .i64 k, .int .i64 n, .slice a l.length cap] 24)).alloc (.cells #[.int .i64 0, .string ⟨#[]⟩] 36)) := ((Below.refl _ _).alloc (Nat.le_refl _) _).alloc (by simp) _
  have HV := Lib.hid (sig_Valid k n _ l _ (hg.below hbw) (hs.below hbw) hf)
  have HS := Lib.hid hs
  have hln := hf.1
  unfold maxLen at hm
  clear hg hs hf hbw
  cases hv : sv k n l
  · have HR := Lib.hid (show prevR k n l t = ((0, ⟨#[]⟩), 1) by unfold prevR; rw [if_pos hv])
    go_enter Tryz.func24, Tryz.ntmps24
    go_wp2_with fail
    refine HV.out.mono ?_
    rintro e w1 ⟨rfl, hb⟩
    have hb0 : Below (w.alloc (.cells #[.int .i64 k, .int .i64 n, .slice a l.length cap] 24)).heap.size (w.alloc (.cells #[.int .i64 k, .int .i64 n, .slice a l.length cap] 24)) w1 := ext_alloc hb
    obtain ⟨c0, c1, c2⟩ := box3 hb0
    obtain ⟨p0, p1, q0, q1⟩ := box2r hb
    rw [hv]
    clear hv
    go_wp2_with fail
    refine bodyPost_ret (v := .tuple #[.agg #[.int .i64 0, .string ⟨#[]⟩], .int .i64 1]) (by simp [results, Tryz.results24, go_sem, p0, p1]) rfl ⟨by rw [HR.out], ?_⟩
    exact ((ext_alloc hb0).setCell (by simp) _).setCell (by simp) _
  · obtain ⟨hst, -, -, -⟩ := sv_sorted hv
    by_cases ht : t < 0 ∨ 1099511627777 < t
    · have HR := Lib.hid (show prevR k n l t = ((0, ⟨#[]⟩), 2) by unfold prevR; rw [if_neg (by rw [hv]; simp), if_pos ht])
      clear hst
      go_enter Tryz.func24, Tryz.ntmps24
      go_wp2_with fail
      refine HV.out.mono ?_
      rintro e w1 ⟨rfl, hb⟩
      have hb0 : Below (w.alloc (.cells #[.int .i64 k, .int .i64 n, .slice a l.length cap] 24)).heap.size (w.alloc (.cells #[.int .i64 k, .int .i64 n, .slice a l.length cap] 24)) w1 := ext_alloc hb
      obtain ⟨c0, c1, c2⟩ := box3 hb0
      obtain ⟨p0, p1, q0, q1⟩ := box2r hb
      rw [hv]
      clear hv
      rcases ht with ht | ht
      all_goals
        go_wp2_with fail
      all_goals
        refine bodyPost_ret (v := .tuple #[.agg #[.int .i64 0, .string ⟨#[]⟩], .int .i64 2]) (by simp [results, Tryz.results24, go_sem, p0, p1]) rfl ⟨by rw [HR.out], ?_⟩
        exact ((ext_alloc hb0).setCell (by simp) _).setCell (by simp) _
    · have HR := Lib.hid (show prevR k n l t = chR l ((lo l t : Int) - 1) by unfold prevR; rw [if_neg (by rw [hv]; simp), if_neg ht])
      obtain ⟨ht0, ht1⟩ : 0 ≤ t ∧ t ≤ 1099511627777 := by omega
      have HST := Lib.hid hst
      clear hst ht
      go_enter Tryz.func24, Tryz.ntmps24
      go_wp2_with fail
      refine HV.out.mono ?_
      rintro e w1 ⟨rfl, hb⟩
      have hb0 : Below (w.alloc (.cells #[.int .i64 k, .int .i64 n, .slice a l.length cap] 24)).heap.size (w.alloc (.cells #[.int .i64 k, .int .i64 n, .slice a l.length cap] 24)) w1 := ext_alloc hb
      obtain ⟨c0, c1, c2⟩ := box3 hb0
      obtain ⟨p0, p1, q0, q1⟩ := box2r hb
      rw [hv]
      have HS1 := Lib.hid (HS.out.below (ext_alloc hb0))
      have HB0 := Lib.hid (ext_alloc hb0)
      clear hv hb hb0
      have hwrap : IntKind.i64.wrap ((lo l t : Int) - 1) = (lo l t : Int) - 1 := IntWalk.i64_in _ (by have := lo_le l t; omega)
      go_upto_region 5 with fail
      go_region_held3 (fun w' => w'.cell? ⟨w.heap.size, 0, none⟩ = some (.int .i64 k) ∧ w'.cell? ⟨w.heap.size, 1, none⟩ = some (.int .i64 n) ∧ w'.cell? ⟨w.heap.size, 2, none⟩ = some (.slice a l.length cap)) (first | exact ⟨r0, r1, r2⟩ | exact ⟨s0, s1, s2⟩ | go_keep)
        (first
          | (go_at_call 57; (with_reducible refine (sig_first k n _ l t _ ?_ hln HST.out).mono ?_); (exact HS1.out); rintro e w2 ⟨rfl, hb2⟩; have s0 := (hb2.cell (p := ⟨w.heap.size, 0, none⟩) (cell_lt c0)).trans c0; have s1 := (hb2.cell (p := ⟨w.heap.size, 1, none⟩) (cell_lt c0)).trans c1; have s2 := (hb2.cell (p := ⟨w.heap.size, 2, none⟩) (cell_lt c0)).trans c2; have HB2 := Lib.hid hb2; clear hb2)
          | (go_at_call 56; (with_reducible refine (sig_change k n _ l ((lo l t : Int) - 1) _ ?_).mono ?_); (exact SlR.below (w := w1.drew) HS1.out HB2.out); rintro e w3 ⟨rfl, hb3⟩; have hb23 := ext_trans HB2.out hb3; have r0 := (hb23.cell (p := ⟨w.heap.size, 0, none⟩) (cell_lt c0)).trans c0; have r1 := (hb23.cell (p := ⟨w.heap.size, 1, none⟩) (cell_lt c0)).trans c1; have r2 := (hb23.cell (p := ⟨w.heap.size, 2, none⟩) (cell_lt c0)).trans c2; have p0' := (hb23.cell (p := ⟨w.heap.size + 1, 0, none⟩) (cell_lt p0)).trans p0; have p1' := (hb23.cell (p := ⟨w.heap.size + 1, 1, none⟩) (cell_lt p0)).trans p1; have q0' := (hb23.frozen (p := ⟨w.heap.size + 1, 0, none⟩) (cell_lt p0)).trans q0; have q1' := (hb23.frozen (p := ⟨w.heap.size + 1, 1, none⟩) (cell_lt p0)).trans q1; have HB3 := Lib.hid hb23; clear hb23 hb3))
      go_wp2_with fail
      refine bodyPost_ret (v := .tuple #[.agg #[.int .i64 (chR l ((lo l t : Int) - 1)).1.1, .string (chR l ((lo l t : Int) - 1)).1.2], .int .i64 (chR l ((lo l t : Int) - 1)).2]) (by simp [results, Tryz.results24, go_sem, p0', p1']) rfl ⟨by rw [HR.out], ?_⟩
      exact ((ext_trans HB0.out.drew HB3.out).setCell (by simp) _).setCell (by simp) _


/-- what At returns -/
def atR (k n : Int) (l : List Ch) (t : Int) : ByteArray × Int := if sv k n l = false then (⟨#[]⟩, 1) else if t < 0 ∨ 1099511627776 < t then (⟨#[]⟩, 2) else (valAt k n l t, 0)
set_option maxHeartbeats 400000 in
set_option maxRecDepth 100000 in
theorem sig_At (k n : Int) (v : Value) (l : List Ch) (t : Int) (w : World) (hg : Glob w) (hs : SlR w v l.length (chs l)) (hf : Fit l) :
    Calls Tryz.prog 20 #[.agg #[.int .i64 k, .int .i64 n, v], .int .i64 t] w fun e w' => e = .returned (.tuple #[.string (atR k n l t).1, .int .i64 (atR k n l t).2]) ∧ Below w.heap.size w w' := by
  obtain ⟨a, cap, rfl, hc, hm⟩ := hs.shape
  have hbw : Below w.heap.size w (w.alloc (.cells #[.int .i64 k, .int .i64 n, .slice a l.length cap] 24)) := (Below.refl _ _).alloc (Nat.le_refl _) _
  have HV := Lib.hid (sig_Valid k n _ l _ (hg.below hbw) (hs.below hbw) hf)
  have HS := Lib.hid hs
  have hln := hf.1
  unfold maxLen at hm
  clear hg hs hf hbw
  cases hv : sv k n l
  · have HR := Lib.hid (show atR k n l t = (⟨#[]⟩, 1) by unfold atR; rw [if_pos hv])
    go_enter Tryz.func20, Tryz.ntmps20
    go_wp2_with fail
    refine HV.out.mono ?_
    rintro e w1 ⟨rfl, hb⟩
    rw [hv]
    clear hv
    go_wp2_with fail
    go_ret2
    exact ⟨ret_str_int HR.out.symm, ext_alloc hb⟩
  obtain ⟨hst, -, -, -⟩ := sv_sorted hv
  by_cases ht : t < 0 ∨ 1099511627776 < t
  · have HR := Lib.hid (show atR k n l t = (⟨#[]⟩, 2) by unfold atR; rw [if_neg (by rw [hv]; simp), if_pos ht])
    clear hst
    go_enter Tryz.func20, Tryz.ntmps20
    go_wp2_with fail
    refine HV.out.mono ?_
    rintro e w1 ⟨rfl, hb⟩
    rw [hv]
    clear hv
    rcases ht with ht | ht
    all_goals
      go_wp2_with fail
    all_goals
      go_ret2
      exact ⟨ret_str_int HR.out.symm, ext_alloc hb⟩
  · have HR := Lib.hid (show atR k n l t = (valAt k n l t, 0) by unfold atR; rw [if_neg (by rw [hv]; simp), if_neg ht])
    obtain ⟨ht0, ht1⟩ : 0 ≤ t ∧ t ≤ 1099511627776 := by omega
    have HST := Lib.hid hst
    clear hst ht
    go_enter Tryz.func20, Tryz.ntmps20
    go_wp2_with fail
    refine HV.out.mono ?_
    rintro e w1 ⟨rfl, hb⟩
    obtain ⟨c0, c1, c2⟩ := box3 hb
    rw [hv]
    have HS1 := Lib.hid (HS.out.below (ext_alloc hb))
    clear hv
    go_wp2_with fail
    refine (sig_at k n _ l t _ HS1.out hln HST.out (by omega) (by omega)).mono ?_
    rintro e w2 ⟨rfl, hb2⟩
    go_wp2_with fail
    go_ret2
    exact ⟨ret_str_int HR.out.symm, ext_trans (ext_alloc hb) hb2⟩
end Go.Proofs.YtlbcfmhpkcpmaaaGreatDoor
