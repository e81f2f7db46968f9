import Derived.Test.YtbiadennhnokhaaGreatDoorZ09
import Derived.Deep.RegionHeld3
import Derived.Lib.LazyBuf
namespace Go.Proofs.YtbiadennhnokhaaGreatDoor
open Go.RowKit

set_option maxHeartbeats 400000 in
theorem sig_first1 (c : Ch) (t : Int) (w : World) :
    Calls Tryz.prog 150 #[.agg #[.int .i64 c.1, .string c.2], .int .i64 t] w fun e w' => e = .returned (.int .i64 (Lib.compareInt c.1 t)) ∧ Below w.heap.size w w' := by
  go_enter Tryz.func150, Tryz.ntmps150
  go_wp2_with fail
  refine (Tryz.cmp_Compare_int _ _ _).mono ?_
  rintro e w1 ⟨rfl, hw⟩
  have hw' := hw.symm
  subst hw'
  go_wp2_with fail
  go_ret
  exact ⟨rfl, (Below.refl _ _).alloc (Nat.le_refl _) _⟩

/-- the changes are sorted strictly by their times -/
def Sorted (l : List Ch) : Prop := ∀ i j (hi : i < l.length) (hj : j < l.length), i < j → l[i].1 < l[j].1
/-- how many changes are before a time -/
def lo (l : List Ch) (t : Int) : Nat := (l.takeWhile (fun c => decide (c.1 < t))).length
theorem lo_le (l : List Ch) (t : Int) : lo l t ≤ l.length := List.Sublist.length_le (List.takeWhile_sublist _)
theorem lo_lt (l : List Ch) (t : Int) (hs : Sorted l) (h : Nat) (hh : h < l.length) : l[h].1 < t ↔ h < lo l t := by
  constructor
  · intro h1
    rcases Nat.lt_or_ge h (lo l t) with h2 | h2
    · exact h2
    · exfalso
      have hlt : lo l t < l.length := by omega
      have := takeWhile_end (fun c : Ch => decide (c.1 < t)) l l[lo l t] (List.getElem?_eq_getElem hlt)
      simp at this
      rcases Nat.lt_or_ge (lo l t) h with h3 | h3
      · have := hs _ _ hlt hh h3; omega
      · obtain rfl : h = lo l t := by omega
        omega
  · intro h1
    obtain ⟨x, hx, hp⟩ := takeWhile_at (fun c : Ch => decide (c.1 < t)) l h h1
    rw [List.getElem?_eq_getElem hh] at hx
    rw [Option.some.inj hx]
    simpa using hp

set_option maxHeartbeats 800000 in
set_option maxRecDepth 100000 in
theorem bin_search (v : Value) (l : List Ch) (t : Int) (w : World) (hs : SlR w v l.length (chs l)) (hl : l.length ≤ 1000000) (hst : Sorted l) :
    Calls Tryz.prog 149 #[v, .int .i64 t, .func (.func 150) #[] #[]] w fun e w' => (∃ b, e = .returned (.tuple #[.int .i64 (lo l t), .bool b])) ∧ Below w.heap.size w w' := by
  obtain ⟨a, cap, rfl, hc, hm⟩ := hs.shape
  unfold maxLen at hm
  have HS := Lib.hid hs
  have HT := Lib.hid hst
  clear hs hst
  go_enter Tryz.func149, Tryz.ntmps149
  go_wp2_with fail
  go_loopw [9, 10, 11] (fun i_ j_ _ wr => ∃ (i j : Nat), i_ = .int .i64 i ∧ j_ = .int .i64 j ∧ i ≤ lo l t ∧ lo l t ≤ j ∧ j ≤ l.length ∧ Below w.heap.size w wr)
    (fun i_ j_ _ _ => (intOf j_).toNat - (intOf i_).toNat)
  case atStart => exact ⟨0, l.length, rfl, rfl, Nat.zero_le _, lo_le _ _, Nat.le_refl _, Below.refl _ _⟩
  case round =>
    obtain ⟨i, j, rfl, rfl, h1, h2, h3, hb⟩ := hrel
    by_cases hlt : i < j
    · have hh : (i + j) / 2 < l.length := by omega
      obtain ⟨b, o, rfl, d0, d1⟩ := (HS.out.below hb).ch hh
      have HLO := Lib.hid (lo_lt l t HT.out _ hh)
      generalize l[(i+j)/2] = c at d0 d1 HLO
      go_wp2_with fail
      refine (sig_first1 c t _).mono ?_
      rintro e w3 ⟨rfl, hb3⟩
      by_cases hct : c.1 < t
      · have hcmp : Lib.compareInt c.1 t = -1 := by unfold Lib.compareInt; rw [if_pos hct]
        have hil := (HLO.out).1 hct
        rw [hcmp]
        clear hcmp
        go_wp2_with fail
        go_roundw
        case rel => exact ⟨(i + j) / 2 + 1, j, by go_num, rfl, by omega, h2, h3, ext_trans hb hb3⟩
        case measure => simp [intOf]; omega
      · have hcmp : 0 ≤ Lib.compareInt c.1 t := by unfold Lib.compareInt; rw [if_neg hct]; split <;> decide
        have hil : lo l t ≤ (i + j) / 2 := by
          rcases Nat.lt_or_ge ((i + j) / 2) (lo l t) with h | h
          · exact absurd (HLO.out.2 h) hct
          · exact h
        go_wp2_with fail
        go_roundw
        case rel => exact ⟨i, (i + j) / 2, rfl, by go_num, h1, hil, by omega, ext_trans hb hb3⟩
        case measure => simp [intOf]; omega
    · obtain rfl : i = lo l t := by omega
      by_cases hlo : lo l t < l.length
      · obtain ⟨b, o, rfl, d0, d1⟩ := (HS.out.below hb).ch hlo
        generalize l[lo l t] = c at d0 d1
        go_wp2_with fail
        refine (sig_first1 c t _).mono ?_
        rintro e w3 ⟨rfl, hb3⟩
        go_wp2_with fail
        go_ret2
        exact ⟨⟨_, rfl⟩, ext_trans hb hb3⟩
      · go_wp2_with fail
        go_ret2
        exact ⟨⟨_, rfl⟩, hb⟩
end Go.Proofs.YtbiadennhnokhaaGreatDoor

namespace Go.Proofs.YtbiadennhnokhaaGreatDoor
open Go.RowKit

set_option maxHeartbeats 400000 in
theorem sig_first (k n : Int) (v : Value) (l : List Ch) (t : Int) (w : World) (hs : SlR w v l.length (chs l)) (hl : l.length ≤ 1000000) (hst : Sorted l) :
    Calls Tryz.prog 98 #[.agg #[.int .i64 k, .int .i64 n, v], .int .i64 t] w fun e w' => e = .returned (.int .i64 (lo l t)) ∧ Below w.heap.size w w' := by
  obtain ⟨a, cap, rfl, hc, hm⟩ := hs.shape
  have HB := Lib.hid (bin_search _ l t _ (hs.below ((Below.refl _ w).alloc (Nat.le_refl _) (.cells #[.int .i64 k, .int .i64 n, .slice a l.length cap] 45))) hl hst)
  clear hs hst
  go_enter Tryz.func98, Tryz.ntmps98
  go_wp2_with fail
  refine HB.out.mono ?_
  rintro e w1 ⟨⟨b, rfl⟩, hb⟩
  go_wp2_with fail
  go_ret
  exact ⟨rfl, ext_alloc hb⟩

def valAt (k n : Int) (l : List Ch) (t : Int) : ByteArray := if k = 3 then vi k n else match lo l (t + 1) with | 0 => vi k n | j + 1 => (l.getD j (0, ⟨#[]⟩)).2

set_option maxHeartbeats 400000 in
set_option maxRecDepth 100000 in
theorem sig_at (k n : Int) (v : Value) (l : List Ch) (t : Int) (w : World) (hs : SlR w v l.length (chs l)) (hl : l.length ≤ 1000000) (hst : Sorted l) (ht0 : -1000000000000000 ≤ t) (ht1 : t ≤ 1000000000000000) :
    Calls Tryz.prog 85 #[.agg #[.int .i64 k, .int .i64 n, v], .int .i64 t] w fun e w' => e = .returned (.string (valAt k n l t)) ∧ Below w.heap.size w w' := by
  obtain ⟨a, cap, rfl, hc, hm⟩ := hs.shape
  unfold maxLen at hm
  have hbw : Below w.heap.size w (w.alloc (.cells #[.int .i64 k, .int .i64 n, .slice a l.length cap] 45)) := (Below.refl _ w).alloc (Nat.le_refl _) _
  have HF := Lib.hid (sig_first k n _ l (t + 1) _ (hs.below hbw) hl hst)
  have HS := Lib.hid hs
  have hlo := lo_le l (t + 1)
  clear hs hst hbw
  by_cases hk : k = 3
  · have HV := Lib.hid (show valAt k n l t = vi k n by unfold valAt; rw [if_pos hk])
    subst hk
    go_enter Tryz.func85, Tryz.ntmps85
    go_wp2_with fail
    refine HF.out.mono ?_
    rintro e w1 ⟨rfl, hb⟩
    obtain ⟨c0, c1, c2⟩ := box3 hb
    go_wp2_with fail
    refine (val_Initial _ _ _).mono ?_
    rintro e w2 ⟨rfl, hb2⟩
    go_wp2_with fail
    go_ret
    exact ⟨ret_str HV.out.symm, ext_trans (ext_alloc hb) hb2⟩
  have hk3 : (k == 3) = false := by rw [beq_eq_false_iff_ne]; exact hk
  cases hq : lo l (t + 1) with
  | zero =>
    have HV := Lib.hid (show valAt k n l t = vi k n by unfold valAt; rw [if_neg hk, hq])
    have HQ := Lib.hid hq
    clear hk hq
    go_enter Tryz.func85, Tryz.ntmps85
    go_wp2_with fail
    refine HF.out.mono ?_
    rintro e w1 ⟨rfl, hb⟩
    rw [HQ.out]
    obtain ⟨c0, c1, c2⟩ := box3 hb
    go_wp2_with fail
    refine (val_Initial _ _ _).mono ?_
    rintro e w2 ⟨rfl, hb2⟩
    go_wp2_with fail
    go_ret
    exact ⟨ret_str HV.out.symm, ext_trans (ext_alloc hb) hb2⟩
  | succ j =>
    have hj : j < l.length := by omega
    have HV := Lib.hid (show valAt k n l t = l[j].2 by
      unfold valAt
      rw [if_neg hk, hq]
      simp only [List.getD_eq_getElem?_getD, List.getElem?_eq_getElem hj, Option.getD_some])
    have HQ := Lib.hid hq
    clear hk hq
    have hne : (((j + 1 : Nat) : Int) == 0) = false := by rw [beq_eq_false_iff_ne]; omega
    go_enter Tryz.func85, Tryz.ntmps85
    go_wp2_with fail
    refine HF.out.mono ?_
    rintro e w1 ⟨rfl, hb⟩
    rw [HQ.out]
    obtain ⟨c0, c1, c2⟩ := box3 hb
    obtain ⟨b, o, rfl, d0, d1⟩ := (HS.out.below (ext_alloc hb)).ch hj
    generalize l[j] = c at d0 d1 HV
    go_wp2_with fail
    go_ret
    exact ⟨ret_str HV.out.symm, ext_alloc hb⟩

/-- the change with an index, if there is one -/
def chR (l : List Ch) (k : Int) : Ch × Int := if k < 0 then ((0, ⟨#[]⟩), 6) else match l[k.toNat]? with | none => ((0, ⟨#[]⟩), 6) | some c => (c, 0)
def ChPost (r : Ch × Int) (w : World) (e : Ending) (w' : World) : Prop := e = .returned (.tuple #[.agg #[.int .i64 r.1.1, .string r.1.2], .int .i64 r.2]) ∧ Below w.heap.size w w'

set_option maxHeartbeats 400000 in
set_option maxRecDepth 100000 in
theorem sig_change (k n : Int) (v : Value) (l : List Ch) (j : Int) (w : World) (hs : SlR w v l.length (chs l)) :
    Calls Tryz.prog 97 #[.agg #[.int .i64 k, .int .i64 n, v], .int .i64 j] w (ChPost (chR l j) w) := by
  obtain ⟨a, cap, rfl, hc, hm⟩ := hs.shape
  unfold maxLen at hm
  have HS := Lib.hid hs
  clear hs
  by_cases h0 : j < 0
  · have HR := Lib.hid (show chR l j = ((0, ⟨#[]⟩), 6) by unfold chR; rw [if_pos h0])
    go_enter Tryz.func97, Tryz.ntmps97
    go_wp2_with fail
    refine bodyPost_ret (v := .tuple #[.agg #[.int .i64 0, .string ⟨#[]⟩], .int .i64 6]) (by simp [results, Tryz.results97, go_sem]) rfl ⟨by rw [HR.out], ?_⟩
    exact ((Below.refl _ _).alloc (Nat.le_refl _) _).alloc (by simp) _
  obtain ⟨i, rfl⟩ := Int.eq_ofNat_of_zero_le (show 0 ≤ j by omega)
  clear h0
  by_cases h1 : i < l.length
  · have HR := Lib.hid (show chR l i = (l[i], 0) by unfold chR; rw [if_neg (by omega), Int.toNat_natCast, List.getElem?_eq_getElem h1])
    have hbw : Below w.heap.size w ((w.alloc (.cells #[.int .i64 k, .int .i64 n, .slice a l.length cap] 45)).alloc (.cells #[.int .i64 0, .string ⟨#[]⟩] 53)) := ((Below.refl _ _).alloc (Nat.le_refl _) _).alloc (by simp) _
    obtain ⟨b, o, rfl, d0, d1⟩ := (HS.out.below hbw).ch h1
    generalize l[i] = c at d0 d1 HR
    obtain ⟨t, s⟩ := c
    clear hbw
    go_enter Tryz.func97, Tryz.ntmps97
    go_wp2_with fail
    refine bodyPost_ret (v := .tuple #[.agg #[.int .i64 t, .string s], .int .i64 0]) (by simp [results, Tryz.results97, go_sem]) rfl ⟨by rw [HR.out], ?_⟩
    exact ((Below.refl _ _).alloc (Nat.le_refl _) _).alloc (by simp) _
  · have HR := Lib.hid (show chR l i = ((0, ⟨#[]⟩), 6) by unfold chR; rw [if_neg (by omega), Int.toNat_natCast, List.getElem?_eq_none (by omega)])
    have hd : decide (i < l.length) = false := by simpa using h1
    go_enter Tryz.func97, Tryz.ntmps97
    go_wp2_with fail
    refine bodyPost_ret (v := .tuple #[.agg #[.int .i64 0, .string ⟨#[]⟩], .int .i64 6]) (by simp [results, Tryz.results97, go_sem]) rfl ⟨by rw [HR.out], ?_⟩
    exact ((Below.refl _ _).alloc (Nat.le_refl _) _).alloc (by simp) _
end Go.Proofs.YtbiadennhnokhaaGreatDoor

namespace Go.Proofs.YtbiadennhnokhaaGreatDoor
open Go.RowKit

theorem svGo_sorted (k n : Int) : ∀ (l : List Ch) (a : Int) (v : ByteArray), svGo k n a v l = true → (∀ j (hj : j < l.length), a < l[j].1 ∧ l[j].1 ≤ 1099511627776 ∧ vv k n l[j].2 = true) ∧ Sorted l
  | [], a, v, _ => ⟨fun j hj => by simp at hj, fun i j hi => by simp at hi⟩
  | c :: l, a, v, h => by
    unfold svGo at h
    split at h
    · cases h
    · rename_i h1
      split at h
      · cases h
      · rename_i h2
        split at h
        · cases h
        · obtain ⟨h3, h4⟩ := svGo_sorted k n l c.1 c.2 h
          refine ⟨fun j hj => ?_, fun i j hi hj hij => ?_⟩
          · cases j with
            | zero => exact ⟨by simp; omega, by simp; omega, by simpa using h2⟩
            | succ j =>
              have := h3 j (by simpa using hj)
              simp only [List.getElem_cons_succ]
              exact ⟨by omega, this.2⟩
          · cases j with
            | zero => omega
            | succ j =>
              cases i with
              | zero => simpa using (h3 j (by simpa using hj)).1
              | succ i => simpa using h4 i j (by simpa using hi) (by simpa using hj) (by omega)
theorem sv_sorted {k n : Int} {l : List Ch} (h : sv k n l = true) : Sorted l ∧ l.length ≤ 4096 ∧ vt k n = true ∧ ∀ j (hj : j < l.length), 0 ≤ l[j].1 ∧ l[j].1 ≤ 1099511627776 ∧ vv k n l[j].2 = true := by
  unfold sv at h
  rw [Bool.and_eq_true, Bool.and_eq_true, decide_eq_true_iff] at h
  obtain ⟨⟨h1, h2⟩, h3⟩ := h
  obtain ⟨h4, h5⟩ := svGo_sorted k n l _ _ h3
  exact ⟨h5, h2, h1, fun j hj => by have := h4 j hj; exact ⟨by omega, this.2⟩⟩

theorem box2r {w W : World} {X : Obj} {x y : Value} {T : TypeId} (hb : Below ((w.alloc X).alloc (.cells #[x, y] T)).heap.size ((w.alloc X).alloc (.cells #[x, y] T)) W) :
    W.cell? ⟨w.heap.size + 1, 0, none⟩ = some x ∧ W.cell? ⟨w.heap.size + 1, 1, none⟩ = some y ∧ W.frozen? ⟨w.heap.size + 1, 0, none⟩ = false ∧ W.frozen? ⟨w.heap.size + 1, 1, none⟩ = false := by
  have h := fun i => boxN hb i
  simp only [World.size_alloc] at h
  exact ⟨(h 0).1, (h 1).1, (h 0).2, (h 1).2⟩
/-- what Next returns -/
def nextR (k n : Int) (l : List Ch) (t : Int) : Ch × Int := if sv k n l = false then ((0, ⟨#[]⟩), 1) else if t < -1 ∨ 1099511627776 < t then ((0, ⟨#[]⟩), 2) else chR l (lo l (t + 1))

set_option maxHeartbeats 400000 in
set_option maxRecDepth 100000 in
theorem sig_Next (k n : Int) (v : Value) (l : List Ch) (t : Int) (w : World) (hg : Glob w) (hs : SlR w v l.length (chs l)) (hf : Fit l) :
    Calls Tryz.prog 33 #[.agg #[.int .i64 k, .int .i64 n, v], .int .i64 t] w (ChPost (nextR k n l t) w) := by
  obtain ⟨a, cap, rfl, hc, hm⟩ := hs.shape
  have hbw : Below w.heap.size w ((w.alloc (.cells #[.int .i64 k, .int .i64 n, .slice a l.length cap] 45)).alloc (.cells #[.int .i64 0, .string ⟨#[]⟩] 53)) := ((Below.refl _ _).alloc (Nat.le_refl _) _).alloc (by simp) _
  have HV := Lib.hid (sig_Valid k n _ l _ (hg.below hbw) (hs.below hbw) hf)
  have HS := Lib.hid hs
  have hln := hf.1
  unfold maxLen at hm
  clear hg hs hf hbw
  cases hv : sv k n l
  · have HR := Lib.hid (show nextR k n l t = ((0, ⟨#[]⟩), 1) by unfold nextR; rw [if_pos hv])
    go_enter Tryz.func33, Tryz.ntmps33
    go_wp2_with fail
    refine HV.out.mono ?_
    rintro e w1 ⟨rfl, hb⟩
    have hb0 : Below (w.alloc (.cells #[.int .i64 k, .int .i64 n, .slice a l.length cap] 45)).heap.size (w.alloc (.cells #[.int .i64 k, .int .i64 n, .slice a l.length cap] 45)) w1 := ext_alloc hb
    obtain ⟨c0, c1, c2⟩ := box3 hb0
    obtain ⟨p0, p1, q0, q1⟩ := box2r hb
    rw [hv]
    clear hv
    go_wp2_with fail
    refine bodyPost_ret (v := .tuple #[.agg #[.int .i64 0, .string ⟨#[]⟩], .int .i64 1]) (by simp [results, Tryz.results33, go_sem, p0, p1]) rfl ⟨by rw [HR.out], ?_⟩
    exact ((ext_alloc hb0).setCell (by simp) _).setCell (by simp) _
  · obtain ⟨hst, -, -, -⟩ := sv_sorted hv
    by_cases ht : t < -1 ∨ 1099511627776 < t
    · have HR := Lib.hid (show nextR k n l t = ((0, ⟨#[]⟩), 2) by unfold nextR; rw [if_neg (by rw [hv]; simp), if_pos ht])
      clear hst
      go_enter Tryz.func33, Tryz.ntmps33
      go_wp2_with fail
      refine HV.out.mono ?_
      rintro e w1 ⟨rfl, hb⟩
      have hb0 : Below (w.alloc (.cells #[.int .i64 k, .int .i64 n, .slice a l.length cap] 45)).heap.size (w.alloc (.cells #[.int .i64 k, .int .i64 n, .slice a l.length cap] 45)) w1 := ext_alloc hb
      obtain ⟨c0, c1, c2⟩ := box3 hb0
      obtain ⟨p0, p1, q0, q1⟩ := box2r hb
      rw [hv]
      clear hv
      rcases ht with ht | ht
      all_goals
        go_wp2_with fail
      all_goals
        refine bodyPost_ret (v := .tuple #[.agg #[.int .i64 0, .string ⟨#[]⟩], .int .i64 2]) (by simp [results, Tryz.results33, go_sem, p0, p1]) rfl ⟨by rw [HR.out], ?_⟩
        exact ((ext_alloc hb0).setCell (by simp) _).setCell (by simp) _
    · have HR := Lib.hid (show nextR k n l t = chR l (lo l (t + 1)) by unfold nextR; rw [if_neg (by rw [hv]; simp), if_neg ht])
      obtain ⟨ht0, ht1⟩ : -1 ≤ t ∧ t ≤ 1099511627776 := by omega
      have HST := Lib.hid hst
      clear hst ht
      go_enter Tryz.func33, Tryz.ntmps33
      go_wp2_with fail
      refine HV.out.mono ?_
      rintro e w1 ⟨rfl, hb⟩
      have hb0 : Below (w.alloc (.cells #[.int .i64 k, .int .i64 n, .slice a l.length cap] 45)).heap.size (w.alloc (.cells #[.int .i64 k, .int .i64 n, .slice a l.length cap] 45)) w1 := ext_alloc hb
      obtain ⟨c0, c1, c2⟩ := box3 hb0
      obtain ⟨p0, p1, q0, q1⟩ := box2r hb
      rw [hv]
      have HS1 := Lib.hid (HS.out.below (ext_alloc hb0))
      have HB0 := Lib.hid (ext_alloc hb0)
      clear hv hb hb0
      have hwrap : IntKind.i64.wrap (t + 1) = t + 1 := IntWalk.i64_in _ (by omega)
      go_upto_region 5 with fail
      go_region_held3 (fun w' => w'.cell? ⟨w.heap.size, 0, none⟩ = some (.int .i64 k) ∧ w'.cell? ⟨w.heap.size, 1, none⟩ = some (.int .i64 n) ∧ w'.cell? ⟨w.heap.size, 2, none⟩ = some (.slice a l.length cap)) (first | exact ⟨r0, r1, r2⟩ | exact ⟨s0, s1, s2⟩ | go_keep)
        (first
          | (go_at_call 98; (with_reducible refine (sig_first k n _ l (t + 1) _ ?_ hln HST.out).mono ?_); (exact HS1.out); rintro e w2 ⟨rfl, hb2⟩; have s0 := (hb2.cell (p := ⟨w.heap.size, 0, none⟩) (cell_lt c0)).trans c0; have s1 := (hb2.cell (p := ⟨w.heap.size, 1, none⟩) (cell_lt c0)).trans c1; have s2 := (hb2.cell (p := ⟨w.heap.size, 2, none⟩) (cell_lt c0)).trans c2; have HB2 := Lib.hid hb2; clear hb2)
          | (go_at_call 97; (with_reducible refine (sig_change k n _ l (lo l (t + 1)) _ ?_).mono ?_); (exact SlR.below (w := w1.drew) HS1.out HB2.out); rintro e w3 ⟨rfl, hb3⟩; have hb23 := ext_trans HB2.out hb3; have r0 := (hb23.cell (p := ⟨w.heap.size, 0, none⟩) (cell_lt c0)).trans c0; have r1 := (hb23.cell (p := ⟨w.heap.size, 1, none⟩) (cell_lt c0)).trans c1; have r2 := (hb23.cell (p := ⟨w.heap.size, 2, none⟩) (cell_lt c0)).trans c2; have p0' := (hb23.cell (p := ⟨w.heap.size + 1, 0, none⟩) (cell_lt p0)).trans p0; have p1' := (hb23.cell (p := ⟨w.heap.size + 1, 1, none⟩) (cell_lt p0)).trans p1; have q0' := (hb23.frozen (p := ⟨w.heap.size + 1, 0, none⟩) (cell_lt p0)).trans q0; have q1' := (hb23.frozen (p := ⟨w.heap.size + 1, 1, none⟩) (cell_lt p0)).trans q1; have HB3 := Lib.hid hb23; clear hb23 hb3))
      go_wp2_with fail
      refine bodyPost_ret (v := .tuple #[.agg #[.int .i64 (chR l (lo l (t + 1))).1.1, .string (chR l (lo l (t + 1))).1.2], .int .i64 (chR l (lo l (t + 1))).2]) (by simp [results, Tryz.results33, go_sem, p0', p1']) rfl ⟨by rw [HR.out], ?_⟩
      exact ((ext_trans HB0.out.drew HB3.out).setCell (by simp) _).setCell (by simp) _

end Go.Proofs.YtbiadennhnokhaaGreatDoor

namespace Go.Proofs.YtbiadennhnokhaaGreatDoor
open Go.RowKit

/-- what Previous returns -/
def prevR (k n : Int) (l : List Ch) (t : Int) : Ch × Int := if sv k n l = false then ((0, ⟨#[]⟩), 1) else if t < 0 ∨ 1099511627777 < t then ((0, ⟨#[]⟩), 2) else chR l ((lo l t : Int) - 1)

set_option maxHeartbeats 400000 in
set_option maxRecDepth 100000 in
theorem sig_Previous (k n : Int) (v : Value) (l : List Ch) (t : Int) (w : World) (hg : Glob w) (hs : SlR w v l.length (chs l)) (hf : Fit l) :
    Calls Tryz.prog 34 #[.agg #[.int .i64 k, .int .i64 n, v], .int .i64 t] w (ChPost (prevR k n l t) w) := by
  obtain ⟨a, cap, rfl, hc, hm⟩ := hs.shape
  have hbw : Below w.heap.size w ((w.alloc (.cells #[.int .i64 k, .int .i64 n, .slice a l.length cap] 45)).alloc (.cells #[.int .i64 0, .string ⟨#[]⟩] 53)) := ((Below.refl _ _).alloc (Nat.le_refl _) _).alloc (by simp) _
  have HV := Lib.hid (sig_Valid k n _ l _ (hg.below hbw) (hs.below hbw) hf)
  have HS := Lib.hid hs
  have hln := hf.1
  unfold maxLen at hm
  clear hg hs hf hbw
  cases hv : sv k n l
  · have HR := Lib.hid (show prevR k n l t = ((0, ⟨#[]⟩), 1) by unfold prevR; rw [if_pos hv])
    go_enter Tryz.func34, Tryz.ntmps34
    go_wp2_with fail
    refine HV.out.mono ?_
    rintro e w1 ⟨rfl, hb⟩
    have hb0 : Below (w.alloc (.cells #[.int .i64 k, .int .i64 n, .slice a l.length cap] 45)).heap.size (w.alloc (.cells #[.int .i64 k, .int .i64 n, .slice a l.length cap] 45)) w1 := ext_alloc hb
    obtain ⟨c0, c1, c2⟩ := box3 hb0
    obtain ⟨p0, p1, q0, q1⟩ := box2r hb
    rw [hv]
    clear hv
    go_wp2_with fail
    refine bodyPost_ret (v := .tuple #[.agg #[.int .i64 0, .string ⟨#[]⟩], .int .i64 1]) (by simp [results, Tryz.results34, go_sem, p0, p1]) rfl ⟨by rw [HR.out], ?_⟩
    exact ((ext_alloc hb0).setCell (by simp) _).setCell (by simp) _
  · obtain ⟨hst, -, -, -⟩ := sv_sorted hv
    by_cases ht : t < 0 ∨ 1099511627777 < t
    · have HR := Lib.hid (show prevR k n l t = ((0, ⟨#[]⟩), 2) by unfold prevR; rw [if_neg (by rw [hv]; simp), if_pos ht])
      clear hst
      go_enter Tryz.func34, Tryz.ntmps34
      go_wp2_with fail
      refine HV.out.mono ?_
      rintro e w1 ⟨rfl, hb⟩
      have hb0 : Below (w.alloc (.cells #[.int .i64 k, .int .i64 n, .slice a l.length cap] 45)).heap.size (w.alloc (.cells #[.int .i64 k, .int .i64 n, .slice a l.length cap] 45)) w1 := ext_alloc hb
      obtain ⟨c0, c1, c2⟩ := box3 hb0
      obtain ⟨p0, p1, q0, q1⟩ := box2r hb
      rw [hv]
      clear hv
      rcases ht with ht | ht
      all_goals
        go_wp2_with fail
      all_goals
        refine bodyPost_ret (v := .tuple #[.agg #[.int .i64 0, .string ⟨#[]⟩], .int .i64 2]) (by simp [results, Tryz.results34, go_sem, p0, p1]) rfl ⟨by rw [HR.out], ?_⟩
        exact ((ext_alloc hb0).setCell (by simp) _).setCell (by simp) _
    · have HR := Lib.hid (show prevR k n l t = chR l ((lo l t : Int) - 1) by unfold prevR; rw [if_neg (by rw [hv]; simp), if_neg ht])
      obtain ⟨ht0, ht1⟩ : 0 ≤ t ∧ t ≤ 1099511627777 := by omega
      have HST := Lib.hid hst
      clear hst ht
      go_enter Tryz.func34, Tryz.ntmps34
      go_wp2_with fail
      refine HV.out.mono ?_
      rintro e w1 ⟨rfl, hb⟩
      have hb0 : Below (w.alloc (.cells #[.int .i64 k, .int .i64 n, .slice a l.length cap] 45)).heap.size (w.alloc (.cells #[.int .i64 k, .int .i64 n, .slice a l.length cap] 45)) w1 := ext_alloc hb
      obtain ⟨c0, c1, c2⟩ := box3 hb0
      obtain ⟨p0, p1, q0, q1⟩ := box2r hb
      rw [hv]
      have HS1 := Lib.hid (HS.out.below (ext_alloc hb0))
      have HB0 := Lib.hid (ext_alloc hb0)
      clear hv hb hb0
      have hwrap : IntKind.i64.wrap ((lo l t : Int) - 1) = (lo l t : Int) - 1 := IntWalk.i64_in _ (by have := lo_le l t; omega)
      go_upto_region 5 with fail
      go_region_held3 (fun w' => w'.cell? ⟨w.heap.size, 0, none⟩ = some (.int .i64 k) ∧ w'.cell? ⟨w.heap.size, 1, none⟩ = some (.int .i64 n) ∧ w'.cell? ⟨w.heap.size, 2, none⟩ = some (.slice a l.length cap)) (first | exact ⟨r0, r1, r2⟩ | exact ⟨s0, s1, s2⟩ | go_keep)
        (first
          | (go_at_call 98; (with_reducible refine (sig_first k n _ l t _ ?_ hln HST.out).mono ?_); (exact HS1.out); rintro e w2 ⟨rfl, hb2⟩; have s0 := (hb2.cell (p := ⟨w.heap.size, 0, none⟩) (cell_lt c0)).trans c0; have s1 := (hb2.cell (p := ⟨w.heap.size, 1, none⟩) (cell_lt c0)).trans c1; have s2 := (hb2.cell (p := ⟨w.heap.size, 2, none⟩) (cell_lt c0)).trans c2; have HB2 := Lib.hid hb2; clear hb2)
          | (go_at_call 97; (with_reducible refine (sig_change k n _ l ((lo l t : Int) - 1) _ ?_).mono ?_); (exact SlR.below (w := w1.drew) HS1.out HB2.out); rintro e w3 ⟨rfl, hb3⟩; have hb23 := ext_trans HB2.out hb3; have r0 := (hb23.cell (p := ⟨w.heap.size, 0, none⟩) (cell_lt c0)).trans c0; have r1 := (hb23.cell (p := ⟨w.heap.size, 1, none⟩) (cell_lt c0)).trans c1; have r2 := (hb23.cell (p := ⟨w.heap.size, 2, none⟩) (cell_lt c0)).trans c2; have p0' := (hb23.cell (p := ⟨w.heap.size + 1, 0, none⟩) (cell_lt p0)).trans p0; have p1' := (hb23.cell (p := ⟨w.heap.size + 1, 1, none⟩) (cell_lt p0)).trans p1; have q0' := (hb23.frozen (p := ⟨w.heap.size + 1, 0, none⟩) (cell_lt p0)).trans q0; have q1' := (hb23.frozen (p := ⟨w.heap.size + 1, 1, none⟩) (cell_lt p0)).trans q1; have HB3 := Lib.hid hb23; clear hb23 hb3))
      go_wp2_with fail
      refine bodyPost_ret (v := .tuple #[.agg #[.int .i64 (chR l ((lo l t : Int) - 1)).1.1, .string (chR l ((lo l t : Int) - 1)).1.2], .int .i64 (chR l ((lo l t : Int) - 1)).2]) (by simp [results, Tryz.results34, go_sem, p0', p1']) rfl ⟨by rw [HR.out], ?_⟩
      exact ((ext_trans HB0.out.drew HB3.out).setCell (by simp) _).setCell (by simp) _


/-- what At returns -/
def atR (k n : Int) (l : List Ch) (t : Int) : ByteArray × Int := if sv k n l = false then (⟨#[]⟩, 1) else if t < 0 ∨ 1099511627776 < t then (⟨#[]⟩, 2) else (valAt k n l t, 0)
set_option maxHeartbeats 400000 in
set_option maxRecDepth 100000 in
theorem sig_At (k n : Int) (v : Value) (l : List Ch) (t : Int) (w : World) (hg : Glob w) (hs : SlR w v l.length (chs l)) (hf : Fit l) :
    Calls Tryz.prog 28 #[.agg #[.int .i64 k, .int .i64 n, v], .int .i64 t] w fun e w' => e = .returned (.tuple #[.string (atR k n l t).1, .int .i64 (atR k n l t).2]) ∧ Below w.heap.size w w' := by
  obtain ⟨a, cap, rfl, hc, hm⟩ := hs.shape
  have hbw : Below w.heap.size w (w.alloc (.cells #[.int .i64 k, .int .i64 n, .slice a l.length cap] 45)) := (Below.refl _ _).alloc (Nat.le_refl _) _
  have HV := Lib.hid (sig_Valid k n _ l _ (hg.below hbw) (hs.below hbw) hf)
  have HS := Lib.hid hs
  have hln := hf.1
  unfold maxLen at hm
  clear hg hs hf hbw
  cases hv : sv k n l
  · have HR := Lib.hid (show atR k n l t = (⟨#[]⟩, 1) by unfold atR; rw [if_pos hv])
    go_enter Tryz.func28, Tryz.ntmps28
    go_wp2_with fail
    refine HV.out.mono ?_
    rintro e w1 ⟨rfl, hb⟩
    rw [hv]
    clear hv
    go_wp2_with fail
    go_ret2
    exact ⟨ret_str_int HR.out.symm, ext_alloc hb⟩
  obtain ⟨hst, -, -, -⟩ := sv_sorted hv
  by_cases ht : t < 0 ∨ 1099511627776 < t
  · have HR := Lib.hid (show atR k n l t = (⟨#[]⟩, 2) by unfold atR; rw [if_neg (by rw [hv]; simp), if_pos ht])
    clear hst
    go_enter Tryz.func28, Tryz.ntmps28
    go_wp2_with fail
    refine HV.out.mono ?_
    rintro e w1 ⟨rfl, hb⟩
    rw [hv]
    clear hv
    rcases ht with ht | ht
    all_goals
      go_wp2_with fail
    all_goals
      go_ret2
      exact ⟨ret_str_int HR.out.symm, ext_alloc hb⟩
  · have HR := Lib.hid (show atR k n l t = (valAt k n l t, 0) by unfold atR; rw [if_neg (by rw [hv]; simp), if_neg ht])
    obtain ⟨ht0, ht1⟩ : 0 ≤ t ∧ t ≤ 1099511627776 := by omega
    have HST := Lib.hid hst
    clear hst ht
    go_enter Tryz.func28, Tryz.ntmps28
    go_wp2_with fail
    refine HV.out.mono ?_
    rintro e w1 ⟨rfl, hb⟩
    obtain ⟨c0, c1, c2⟩ := box3 hb
    rw [hv]
    have HS1 := Lib.hid (HS.out.below (ext_alloc hb))
    clear hv
    go_wp2_with fail
    refine (sig_at k n _ l t _ HS1.out hln HST.out (by omega) (by omega)).mono ?_
    rintro e w2 ⟨rfl, hb2⟩
    go_wp2_with fail
    go_ret2
    exact ⟨ret_str_int HR.out.symm, ext_trans (ext_alloc hb) hb2⟩
end Go.Proofs.YtbiadennhnokhaaGreatDoor
namespace Go.Proofs.YtbiadennhnokhaaGreatDoor
open Go.RowKit

theorem change_info : (Tryz.prog.info? 53).map (fun i => (i.zero, i.size, i.bytes)) = some (some (.agg #[.int .i64 0, .string ⟨#[]⟩]), 2, 24) := by kernel_rfl
theorem chs_one (l : List Ch) : ∀ u ∈ chs l, u.oneCell' = true := by
  induction l with
  | nil => intro u hu; simp [chs] at hu
  | cons c l ih =>
    intro u hu
    rw [chs_cons] at hu
    rcases List.mem_cons.1 hu with rfl | hu
    · rfl
    rcases List.mem_cons.1 hu with rfl | hu
    · rfl
    · exact ih u hu
/-- the cells of a slice of changes, for append -/
theorem SlR.news {w : World} {ad : Addr} {n cap : Nat} {xs : List Value} (h : SlR w (.slice (some ad) n cap) n xs) (hx : n = 0 → xs = []) : ∀ j u, xs[j]? = some u → w.cell? (ad.add j) = some u := by
  intro j u hj
  rcases Nat.eq_zero_or_pos n with h0 | h0
  · rw [hx h0] at hj; simp at hj
  · obtain ⟨b, o, cap', hv, -, -, hc⟩ := h.at h0
    injection hv with e1 _ _
    injection e1 with e1
    subst e1
    rw [addr_add]; exact hc j u hj
theorem chs_nil_of (l : List Ch) (h : l.length = 0) : chs l = [] := by rw [List.length_eq_zero_iff.1 h]; rfl

set_option maxHeartbeats 400000 in
set_option maxRecDepth 100000 in
theorem clone_ch (v : Value) (l : List Ch) (w : World) (hs : SlR w v l.length (chs l)) (hn : l.length ≤ 1000000) :
    Calls Tryz.prog 99 #[v] w fun e w' => ∃ v', e = .returned v' ∧ w'.ownsRow w.heap.size 53 2 v' l.length (chs l) ∧ Below w.heap.size w w' := by
  obtain ⟨a, cap, rfl, hc, hm, hz, hat⟩ := hs
  have hs : SlR w (.slice a l.length cap) l.length (chs l) := ⟨a, cap, rfl, hc, hm, hz, hat⟩
  cases a with
  | none =>
    have hcap := hz rfl
    subst hcap
    have hq := Lib.run_eql_slice_nil (P := Tryz.prog) w 43 53 none l.length 0 0 0 Tryz.underlying43
    have h0 : l.length = 0 := by omega
    have HL := Lib.hid (chs_nil_of l h0)
    have H0 := Lib.hid h0
    clear hs hz hat h0
    go_enter Tryz.func99, Tryz.ntmps99
    go_wp2_with fail
    go_ret
    exact ⟨_, rfl, by rw [HL.out, H0.out]; exact World.ownsRow_nil _ _ _ _, Below.refl _ _⟩
  | some ad =>
    have hq := Lib.run_eql_slice_nil (P := Tryz.prog) w 43 53 (some ad) l.length cap 0 0 Tryz.underlying43
    obtain ⟨i0, hi, iz0, iz1, iz2⟩ := info_parts (P := Tryz.prog) change_info
    have hbw : Below w.heap.size w (w.alloc (.cells #[] 53)) := (Below.refl _ _).alloc (Nat.le_refl _) _
    have HN := Lib.hid ((hs.below hbw).news (chs_nil_of l))
    have hown : (w.alloc (.cells #[] 53)).ownsRow w.heap.size 53 2 (.slice (some ⟨w.heap.size, 0, none⟩) 0 0) 0 [] := World.ownsRow_lit w #[] 0 (Nat.le_refl _) (by simp [maxLen]) (by simp)
    have HOWN := Lib.hid hown
    clear hs hz hat hbw hown
    go_enter Tryz.func99, Tryz.ntmps99
    go_wp2_with (at_builtin; refine wpList_append_own _ rfl _ _ 43 rfl w.heap.size 53 i0 (.agg #[.int .i64 0, .string ⟨#[]⟩]) 2 24 Tryz.underlying43 hi iz0 iz1 iz2 rfl (by decide) _ _ _ rfl HOWN.out ad l.length cap (chs l) rfl (by rw [chs_len]; omega) HN.out (chs_one l) (by unfold maxLen; omega) (by omega) (by simp) ?_)
    intro v' w' ho hg _
    have HO := Lib.hid ho
    have HG := Lib.hid hg
    clear ho hg
    go_wp2_with fail
    go_ret
    exact ⟨_, rfl, by have := HO.out; simpa using this, ((Below.refl _ _).alloc (Nat.le_refl _) _).grown HG.out (by simp) (by intro k hk; simp [Value.ownBlock] at hk; omega)⟩
end Go.Proofs.YtbiadennhnokhaaGreatDoor
namespace Go.Proofs.YtbiadennhnokhaaGreatDoor
open Go.RowKit

/-- what Window returns -/
def winR (k n : Int) (l : List Ch) (from_ to_ : Int) : List Ch := if sv k n l = false then [] else if to_ < from_ then [] else (l.take (lo l (min to_ 1099511627776 + 1))).drop (lo l from_)
def WinPost (r : List Ch) (w : World) (e : Ending) (w' : World) : Prop := ∃ v', e = .returned v' ∧ SlR w' v' r.length (chs r) ∧ Below w.heap.size w w'
theorem WinPost.nil {w W : World} (h : Below w.heap.size w W) : WinPost [] w (.returned (.slice none 0 0)) W := ⟨_, rfl, SlR.nil _, h⟩

/-- a part of a slice of changes -/
theorem SlR.part {w : World} {b o cap : Nat} {l : List Ch} (h : SlR w (.slice (some ⟨b, o, none⟩) l.length cap) l.length (chs l)) (i j : Nat) (hij : i < j) (hj : j ≤ l.length) :
    SlR w (.slice (some ⟨b, o + i * 2, none⟩) (j - i) (cap - i)) ((l.take j).drop i).length (chs ((l.take j).drop i)) := by
  obtain ⟨b', o', cap', hv, h1, h2, hc⟩ := h.at (by omega)
  injection hv with e1 _ e3
  injection e1 with e1
  injection e1 with e1 e2 _
  subst e1 e2 e3
  have hl : ((l.take j).drop i).length = j - i := by simp; omega
  rw [hl]
  refine ⟨_, _, rfl, by omega, by omega, fun h => by simp at h, fun _ => ⟨b, o + i * 2, rfl, fun x u hx => ?_⟩⟩
  have hs : chs l = chs (l.take i) ++ (chs ((l.take j).drop i) ++ chs (l.drop j)) := by
    rw [← chs_append, ← chs_append]
    congr 1
    have h3 : l.take i = (l.take j).take i := by rw [List.take_take, Nat.min_eq_left (by omega)]
    rw [h3, ← List.append_assoc, List.take_append_drop, List.take_append_drop]
  have hx' := (List.getElem?_eq_some_iff.1 hx).1
  have h4 : (chs (l.take i)).length = i * 2 := by rw [chs_len]; simp; omega
  have := hc (i * 2 + x) u (by
    rw [hs, List.getElem?_append_right (by omega), h4, Nat.add_sub_cancel_left, List.getElem?_append_left hx']
    exact hx)
  rwa [← Nat.add_assoc] at this

set_option maxHeartbeats 400000 in
set_option maxRecDepth 100000 in
theorem sig_Window (k n : Int) (v : Value) (l : List Ch) (from_ to_ : Int) (w : World) (hg : Glob w) (hs : SlR w v l.length (chs l)) (hf : Fit l) (hto : -9223372036854775808 ≤ to_) (hto' : to_ ≤ 9223372036854775807) :
    Calls Tryz.prog 36 #[.agg #[.int .i64 k, .int .i64 n, v], .int .i64 from_, .int .i64 to_] w (WinPost (winR k n l from_ to_) w) := by
  obtain ⟨a, cap, rfl, hc, hm⟩ := hs.shape
  have hbw : Below w.heap.size w (w.alloc (.cells #[.int .i64 k, .int .i64 n, .slice a l.length cap] 45)) := (Below.refl _ _).alloc (Nat.le_refl _) _
  have HV := Lib.hid (sig_Valid k n _ l _ (hg.below hbw) (hs.below hbw) hf)
  have HS := Lib.hid hs
  have hln := hf.1
  unfold maxLen at hm
  clear hg hs hf hbw
  cases hv : sv k n l
  · have HR := Lib.hid (show winR k n l from_ to_ = [] by unfold winR; rw [if_pos hv])
    go_enter Tryz.func36, Tryz.ntmps36
    go_wp2_with fail
    refine HV.out.mono ?_
    rintro e w1 ⟨rfl, hb⟩
    rw [hv]
    clear hv
    go_wp2_with fail
    go_ret
    rw [HR.out]
    exact WinPost.nil (ext_alloc hb)
  obtain ⟨hst, -, -, -⟩ := sv_sorted hv
  by_cases hft : to_ < from_
  · have HR := Lib.hid (show winR k n l from_ to_ = [] by unfold winR; rw [if_neg (by rw [hv]; simp), if_pos hft])
    clear hst
    go_enter Tryz.func36, Tryz.ntmps36
    go_wp2_with fail
    refine HV.out.mono ?_
    rintro e w1 ⟨rfl, hb⟩
    rw [hv]
    clear hv
    go_wp2_with fail
    go_ret
    rw [HR.out]
    exact WinPost.nil (ext_alloc hb)
  have HR := Lib.hid (show winR k n l from_ to_ = (l.take (lo l (min to_ 1099511627776 + 1))).drop (lo l from_) by unfold winR; rw [if_neg (by rw [hv]; simp), if_neg hft])
  have hle : from_ ≤ to_ := by omega
  have HST := Lib.hid hst
  have hwrap : IntKind.i64.wrap (min to_ 1099511627776 + 1) = min to_ 1099511627776 + 1 := IntWalk.i64_in _ (by omega)
  have hlo1 := lo_le l from_
  have hlo2 := lo_le l (min to_ 1099511627776 + 1)
  clear hst hft
  go_enter Tryz.func36, Tryz.ntmps36
  go_wp2_with fail
  refine HV.out.mono ?_
  rintro e w1 ⟨rfl, hb⟩
  obtain ⟨c0, c1, c2⟩ := box3 hb
  rw [hv]
  have HS1 := Lib.hid (HS.out.below (ext_alloc hb))
  have HB0 := Lib.hid (ext_alloc hb)
  clear hv hb
  go_upto_region 3 with fail
  go_region_held3 (fun w' => w'.cell? ⟨w.heap.size, 0, none⟩ = some (.int .i64 k) ∧ w'.cell? ⟨w.heap.size, 1, none⟩ = some (.int .i64 n) ∧ w'.cell? ⟨w.heap.size, 2, none⟩ = some (.slice a l.length cap)) (first | exact ⟨r0, r1, r2⟩ | exact ⟨s0, s1, s2⟩ | go_keep)
    (first
      | (go_at_call 98; (with_reducible refine (sig_first k n _ l _ w1.drew ?_ hln HST.out).mono ?_); (exact HS1.out); rintro e w2 ⟨rfl, hb2⟩; have s0 := (hb2.cell (p := ⟨w.heap.size, 0, none⟩) (cell_lt c0)).trans c0; have s1 := (hb2.cell (p := ⟨w.heap.size, 1, none⟩) (cell_lt c0)).trans c1; have s2 := (hb2.cell (p := ⟨w.heap.size, 2, none⟩) (cell_lt c0)).trans c2; have HB2 := Lib.hid hb2; clear hb2)
      | (go_at_call 98; (with_reducible refine (sig_first k n _ l _ _ ?_ hln HST.out).mono ?_); (exact SlR.below (w := w1.drew) HS1.out HB2.out); rintro e w3 ⟨rfl, hb3⟩; have hb23 := ext_trans HB2.out hb3; have r0 := (hb23.cell (p := ⟨w.heap.size, 0, none⟩) (cell_lt c0)).trans c0; have r1 := (hb23.cell (p := ⟨w.heap.size, 1, none⟩) (cell_lt c0)).trans c1; have r2 := (hb23.cell (p := ⟨w.heap.size, 2, none⟩) (cell_lt c0)).trans c2; have HB3 := Lib.hid hb23; clear hb23 hb3))
  all_goals
    by_cases hab : lo l from_ < lo l (min to_ 1099511627776 + 1)
    · obtain ⟨b, o, cap', hv', -, -, -⟩ := HS.out.at (by omega)
      injection hv' with e1 e2 e3
      subst e1
      clear e2 e3
      have hne : cap ≠ lo l from_ := by omega
      have HP := Lib.hid ((HS.out.below (ext_trans HB0.out.drew HB3.out)).part _ _ hab hlo2)
      have hpl : ((l.take (lo l (min to_ 1099511627776 + 1))).drop (lo l from_)).length = lo l (min to_ 1099511627776 + 1) - lo l from_ := by simp; omega
      have hpl2 : ((l.take (lo l (min to_ 1099511627776 + 1))).drop (lo l from_)).length ≤ 1000000 := by omega
      have HPL := Lib.hid hpl
      clear hpl
      go_wp2_with fail
      generalize (l.take (lo l (min to_ 1099511627776 + 1))).drop (lo l from_) = r at *
      rw [← HPL.out] at HP ⊢
      refine (clone_ch _ r _ HP.out hpl2).mono ?_
      rintro e w4 ⟨v4, rfl, ho, hb4⟩
      go_wp2_with fail
      go_ret
      exact ⟨_, rfl, by rw [HR.out]; exact SlR.of_own ho, ext_trans (ext_trans HB0.out.drew HB3.out) hb4⟩
    · have HE := Lib.hid (show (l.take (lo l (min to_ 1099511627776 + 1))).drop (lo l from_) = [] by rw [List.drop_eq_nil_iff, List.length_take]; omega)
      have hab' : lo l (min to_ 1099511627776 + 1) ≤ lo l from_ := by omega
      clear hab
      go_wp2_with fail
      go_ret
      rw [HR.out, HE.out]
      exact WinPost.nil (ext_trans HB0.out.drew HB3.out)
end Go.Proofs.YtbiadennhnokhaaGreatDoor
