import Derived.Test.YtlbcfmhpkcpmaaaGreatDoorRefJ
import Derived.Test.YtlbcfmhpkcpmaaaGreatDoorSig10
import Derived.Test.YtlbcfmhpkcpmaaaGreatDoorPl1
import Derived.Test.YtlbcfmhpkcpmaaaGreatDoorRefK
import Derived.Test.YtlbcfmhpkcpmaaaGreatDoorPl2
namespace Go.Proofs.YtlbcfmhpkcpmaaaGreatDoor
open Go.RowKit

set_option maxHeartbeats 800000 in
set_option maxRecDepth 100000 in
theorem ref_Value (k n : Int) (v : Value) (l : List Ch) (t : Int) (w : World) (hs : SlR w v l.length (chs l)) :
    Calls Tryz.prog 55 #[.agg #[.int .i64 k, .int .i64 n, v], .int .i64 t] w fun e w' => e = .returned (.string (val (vi k n) l t)) ∧ Below w.heap.size w w' := by
  obtain ⟨a, cap, rfl, hc, hm⟩ := hs.shape
  unfold maxLen at hm
  have HS := Lib.hid hs
  clear hs
  go_enter Tryz.func55, Tryz.ntmps55
  go_wp2_with fail
  refine (ref_vInitial k n _).mono ?_
  rintro e w1 ⟨rfl, hb⟩
  obtain ⟨c0, c1, c2⟩ := box3 hb
  have HS1 := Lib.hid (HS.out.below (ext_alloc hb))
  have HB := Lib.hid (ext_alloc hb)
  clear hb HS
  go_wp2_with fail
  go_loop [5, 6] (fun v_ i => ∃ (j : Nat) (s : ByteArray), j ≤ l.length ∧ i = .int .i64 j ∧ v_ = .string s ∧ val s (l.drop j) t = val (vi k n) l t) (fun _ i => l.length - (intOf i).toNat)
  case atStart => exact ⟨0, _, Nat.zero_le _, rfl, rfl, rfl⟩
  case round =>
    obtain ⟨j, s, hj, rfl, rfl, hgo⟩ := hrel
    have HGO := Lib.hid hgo
    clear hgo
    by_cases hlt : j < l.length
    · obtain ⟨b, o, rfl, d0, d1⟩ := HS1.out.ch hlt
      have HGO2 := Lib.hid (show val (if l[j].1 ≤ t then l[j].2 else s) (l.drop (j + 1)) t = val (vi k n) l t by
        rw [← HGO.out, List.drop_eq_getElem_cons hlt, val_cons])
      generalize l[j] = c at d0 d1 HGO2
      obtain ⟨t', s'⟩ := c
      simp only at d0 d1 HGO2
      by_cases ht : t' ≤ t
      · have HGO3 := Lib.hid (show val s' (l.drop (j + 1)) t = val (vi k n) l t by rw [← HGO2.out, if_pos ht])
        go_wp2_with fail
        go_round
        case rel => exact ⟨j + 1, s', by omega, by go_num, rfl, HGO3.out⟩
        case measure => simp [intOf]; omega
      · have HGO3 := Lib.hid (show val s (l.drop (j + 1)) t = val (vi k n) l t by rw [← HGO2.out, if_neg ht])
        have ht' : t < t' := by omega
        clear ht
        go_wp2_with fail
        go_round
        case rel => exact ⟨j + 1, s, by omega, by go_num, rfl, HGO3.out⟩
        case measure => simp [intOf]; omega
    · obtain rfl : j = l.length := by omega
      have HE := Lib.hid (show s = val (vi k n) l t by rw [← HGO.out, List.drop_length]; rfl)
      go_wp2_with fail
      go_ret
      exact ⟨ret_str HE.out, HB.out⟩

set_option maxHeartbeats 400000 in
set_option maxRecDepth 100000 in
theorem ref_At (k n : Int) (v : Value) (l : List Ch) (t : Int) (w : World) (hs : SlR w v l.length (chs l)) (hf : Fit l) :
    Calls Tryz.prog 21 #[.agg #[.int .i64 k, .int .i64 n, v], .int .i64 t] w fun e w' => e = .returned (.tuple #[.string (atR k n l t).1, .int .i64 (atR k n l t).2]) ∧ Below w.heap.size w w' := by
  obtain ⟨a, cap, rfl, hc, hm⟩ := hs.shape
  have hbw : Below w.heap.size w (w.alloc (.cells #[.int .i64 k, .int .i64 n, .slice a l.length cap] 24)) := (Below.refl _ _).alloc (Nat.le_refl _) _
  have HV := Lib.hid (ref_sValid k n _ l _ (hs.below hbw) hf)
  have HS := Lib.hid hs
  unfold maxLen at hm
  clear hs hf hbw
  cases hv : sv k n l
  · have HR := Lib.hid (show atR k n l t = (⟨#[]⟩, 1) by unfold atR; rw [if_pos hv])
    rw [hv] at HV
    clear hv
    go_enter Tryz.func21, Tryz.ntmps21
    go_wp2_with fail
    refine HV.out.mono ?_
    rintro e w1 ⟨rfl, hb⟩
    go_wp2_with fail
    go_ret2
    exact ⟨ret_str_int HR.out.symm, ext_alloc hb⟩
  by_cases ht : t < 0 ∨ 1099511627776 < t
  · have HR := Lib.hid (show atR k n l t = (⟨#[]⟩, 2) by unfold atR; rw [if_neg (by rw [hv]; simp), if_pos ht])
    have HT := Lib.hid (fun W => ref_inT_no t W ht)
    rw [hv] at HV
    clear hv ht
    go_enter Tryz.func21, Tryz.ntmps21
    go_wp2_with fail
    refine HV.out.mono ?_
    rintro e w1 ⟨rfl, hb⟩
    go_wp2_with fail
    refine (HT.out _).mono ?_
    rintro e w2 ⟨rfl, rfl⟩
    go_wp2_with fail
    go_ret2
    exact ⟨ret_str_int HR.out.symm, ext_alloc hb⟩
  · have HR := Lib.hid (show atR k n l t = (val (vi k n) l t, 0) by rw [atR_eq hv (by omega) (by omega)])
    have HT := Lib.hid (fun W => ref_inT_yes t W (by omega) (by omega))
    rw [hv] at HV
    clear hv ht
    go_enter Tryz.func21, Tryz.ntmps21
    go_wp2_with fail
    refine HV.out.mono ?_
    rintro e w1 ⟨rfl, hb⟩
    obtain ⟨c0, c1, c2⟩ := box3 hb
    have HB := Lib.hid (ext_alloc hb)
    clear hb
    go_wp2_with fail
    refine (HT.out _).mono ?_
    rintro e w2 ⟨rfl, rfl⟩
    go_wp2_with fail
    refine (ref_Value k n _ l t _ (HS.out.below HB.out)).mono ?_
    rintro e w2 ⟨rfl, hb2⟩
    go_wp2_with fail
    go_ret2
    exact ⟨ret_str_int HR.out.symm, ext_trans HB.out hb2⟩

set_option maxHeartbeats 400000 in
set_option maxRecDepth 100000 in
theorem ref_Next_no (k n : Int) (v : Value) (l : List Ch) (t : Int) (w : World) (hs : SlR w v l.length (chs l)) (hf : Fit l) (hno : sv k n l = false ∨ t < -1 ∨ 1099511627776 < t) :
    Calls Tryz.prog 23 #[.agg #[.int .i64 k, .int .i64 n, v], .int .i64 t] w (ChPost (nextR k n l t) w) := by
  obtain ⟨a, cap, rfl, hc, hm⟩ := hs.shape
  have hbw : Below w.heap.size w ((w.alloc (.cells #[.int .i64 k, .int .i64 n, .slice a l.length cap] 24)).alloc (.cells #[.int .i64 0, .string ⟨#[]⟩] 36)) := ((Below.refl _ _).alloc (Nat.le_refl _) _).alloc (by simp) _
  have HV := Lib.hid (ref_sValid k n _ l _ (hs.below hbw) hf)
  unfold maxLen at hm
  clear hs hf hbw
  cases hv : sv k n l
  · have HR := Lib.hid (show nextR k n l t = ((0, ⟨#[]⟩), 1) by unfold nextR; rw [if_pos hv])
    rw [hv] at HV
    clear hv hno
    go_enter Tryz.func23, Tryz.ntmps23
    go_wp2_with fail
    refine HV.out.mono ?_
    rintro e w1 ⟨rfl, hb⟩
    have hb0 : Below (w.alloc (.cells #[.int .i64 k, .int .i64 n, .slice a l.length cap] 24)).heap.size (w.alloc (.cells #[.int .i64 k, .int .i64 n, .slice a l.length cap] 24)) w1 := ext_alloc hb
    obtain ⟨p0, p1, q0, q1⟩ := box2r hb
    have HB := Lib.hid (ext_alloc hb0)
    clear hb0 hb
    go_wp2_with fail
    refine bodyPost_ret (v := .tuple #[.agg #[.int .i64 0, .string ⟨#[]⟩], .int .i64 1]) (by simp [results, Tryz.results23, go_sem, p0, p1]) rfl ⟨by rw [HR.out], ?_⟩
    exact ((HB.out).setCell (by simp) _).setCell (by simp) _
  · have ht : t < -1 ∨ 1099511627776 < t := hno.resolve_left (by rw [hv]; simp)
    have HR := Lib.hid (show nextR k n l t = ((0, ⟨#[]⟩), 2) by unfold nextR; rw [if_neg (by rw [hv]; simp), if_pos ht])
    rw [hv] at HV
    clear hv hno
    go_enter Tryz.func23, Tryz.ntmps23
    go_wp2_with fail
    refine HV.out.mono ?_
    rintro e w1 ⟨rfl, hb⟩
    have hb0 : Below (w.alloc (.cells #[.int .i64 k, .int .i64 n, .slice a l.length cap] 24)).heap.size (w.alloc (.cells #[.int .i64 k, .int .i64 n, .slice a l.length cap] 24)) w1 := ext_alloc hb
    obtain ⟨p0, p1, q0, q1⟩ := box2r hb
    have HB := Lib.hid (ext_alloc hb0)
    clear hb0 hb
    rcases ht with ht | ht
    all_goals
      go_wp2_with fail
    all_goals
      refine bodyPost_ret (v := .tuple #[.agg #[.int .i64 0, .string ⟨#[]⟩], .int .i64 2]) (by simp [results, Tryz.results23, go_sem, p0, p1]) rfl ⟨by rw [HR.out], ?_⟩
      exact ((HB.out).setCell (by simp) _).setCell (by simp) _
set_option maxHeartbeats 400000 in
set_option maxRecDepth 100000 in
theorem ref_Previous_no (k n : Int) (v : Value) (l : List Ch) (t : Int) (w : World) (hs : SlR w v l.length (chs l)) (hf : Fit l) (hno : sv k n l = false ∨ t < 0 ∨ 1099511627777 < t) :
    Calls Tryz.prog 25 #[.agg #[.int .i64 k, .int .i64 n, v], .int .i64 t] w (ChPost (prevR k n l t) w) := by
  obtain ⟨a, cap, rfl, hc, hm⟩ := hs.shape
  have hbw : Below w.heap.size w ((w.alloc (.cells #[.int .i64 k, .int .i64 n, .slice a l.length cap] 24)).alloc (.cells #[.int .i64 0, .string ⟨#[]⟩] 36)) := ((Below.refl _ _).alloc (Nat.le_refl _) _).alloc (by simp) _
  have HV := Lib.hid (ref_sValid k n _ l _ (hs.below hbw) hf)
  unfold maxLen at hm
  clear hs hf hbw
  cases hv : sv k n l
  · have HR := Lib.hid (show prevR k n l t = ((0, ⟨#[]⟩), 1) by unfold prevR; rw [if_pos hv])
    rw [hv] at HV
    clear hv hno
    go_enter Tryz.func25, Tryz.ntmps25
    go_wp2_with fail
    refine HV.out.mono ?_
    rintro e w1 ⟨rfl, hb⟩
    have hb0 : Below (w.alloc (.cells #[.int .i64 k, .int .i64 n, .slice a l.length cap] 24)).heap.size (w.alloc (.cells #[.int .i64 k, .int .i64 n, .slice a l.length cap] 24)) w1 := ext_alloc hb
    obtain ⟨p0, p1, q0, q1⟩ := box2r hb
    have HB := Lib.hid (ext_alloc hb0)
    clear hb0 hb
    go_wp2_with fail
    refine bodyPost_ret (v := .tuple #[.agg #[.int .i64 0, .string ⟨#[]⟩], .int .i64 1]) (by simp [results, Tryz.results25, go_sem, p0, p1]) rfl ⟨by rw [HR.out], ?_⟩
    exact ((HB.out).setCell (by simp) _).setCell (by simp) _
  · have ht : t < 0 ∨ 1099511627777 < t := hno.resolve_left (by rw [hv]; simp)
    have HR := Lib.hid (show prevR k n l t = ((0, ⟨#[]⟩), 2) by unfold prevR; rw [if_neg (by rw [hv]; simp), if_pos ht])
    rw [hv] at HV
    clear hv hno
    go_enter Tryz.func25, Tryz.ntmps25
    go_wp2_with fail
    refine HV.out.mono ?_
    rintro e w1 ⟨rfl, hb⟩
    have hb0 : Below (w.alloc (.cells #[.int .i64 k, .int .i64 n, .slice a l.length cap] 24)).heap.size (w.alloc (.cells #[.int .i64 k, .int .i64 n, .slice a l.length cap] 24)) w1 := ext_alloc hb
    obtain ⟨p0, p1, q0, q1⟩ := box2r hb
    have HB := Lib.hid (ext_alloc hb0)
    clear hb0 hb
    rcases ht with ht | ht
    all_goals
      go_wp2_with fail
    all_goals
      refine bodyPost_ret (v := .tuple #[.agg #[.int .i64 0, .string ⟨#[]⟩], .int .i64 2]) (by simp [results, Tryz.results25, go_sem, p0, p1]) rfl ⟨by rw [HR.out], ?_⟩
      exact ((HB.out).setCell (by simp) _).setCell (by simp) _

theorem lo_stop {l : List Ch} {t : Int} {j : Nat} (hj : j < l.length) (h : j ≤ lo l t) (hc : ¬ l[j].1 < t) : lo l t = j := by
  rcases Nat.lt_or_ge j (lo l t) with h1 | h1
  · obtain ⟨x, hx, hp⟩ := takeWhile_at (fun c : Ch => decide (c.1 < t)) l j h1
    rw [List.getElem?_eq_getElem hj] at hx
    rw [← Option.some.inj hx] at hp
    exact absurd (of_decide_eq_true hp) hc
  · omega
theorem lo_go {l : List Ch} {t : Int} {j : Nat} (hj : j < l.length) (h : j ≤ lo l t) (hc : l[j].1 < t) : j + 1 ≤ lo l t := by
  rcases Nat.lt_or_ge j (lo l t) with h1 | h1
  · omega
  · exfalso
    have : lo l t = j := by omega
    have h2 := takeWhile_end (fun c : Ch => decide (c.1 < t)) l l[j] (by
      have e : (l.takeWhile (fun c : Ch => decide (c.1 < t))).length = j := this
      rw [e]; exact List.getElem?_eq_getElem hj)
    simp at h2
    omega

set_option maxHeartbeats 800000 in
set_option maxRecDepth 100000 in
theorem ref_Next (k n : Int) (v : Value) (l : List Ch) (t : Int) (w : World) (hs : SlR w v l.length (chs l)) (hf : Fit l) :
    Calls Tryz.prog 23 #[.agg #[.int .i64 k, .int .i64 n, v], .int .i64 t] w (ChPost (nextR k n l t) w) := by
  by_cases hno : sv k n l = false ∨ t < -1 ∨ 1099511627776 < t
  · exact ref_Next_no k n v l t w hs hf hno
  have hv : sv k n l = true := by
    cases h : sv k n l
    · exact absurd (.inl h) hno
    · rfl
  have ht' : ¬ (t < -1 ∨ 1099511627776 < t) := fun h => hno (.inr h)
  have ht : -1 ≤ t ∧ t ≤ 1099511627776 := by omega
  obtain ⟨ht0, ht1⟩ := ht
  clear hno ht'
  obtain ⟨a, cap, rfl, hc, hm⟩ := hs.shape
  have hbw : Below w.heap.size w ((w.alloc (.cells #[.int .i64 k, .int .i64 n, .slice a l.length cap] 24)).alloc (.cells #[.int .i64 0, .string ⟨#[]⟩] 36)) := ((Below.refl _ _).alloc (Nat.le_refl _) _).alloc (by simp) _
  have HV := Lib.hid (ref_sValid k n _ l _ (hs.below hbw) hf)
  have HS := Lib.hid hs
  have hln := hf.1
  unfold maxLen at hm
  have HR0 := Lib.hid (show nextR k n l t = chR l (lo l (t + 1)) by unfold nextR; rw [if_neg (by rw [hv]; simp), if_neg (by omega)])
  rw [hv] at HV
  clear hs hf hbw hv
  go_enter Tryz.func23, Tryz.ntmps23
  go_wp2_with fail
  refine HV.out.mono ?_
  rintro e w1 ⟨rfl, hb⟩
  have hb0 : Below (w.alloc (.cells #[.int .i64 k, .int .i64 n, .slice a l.length cap] 24)).heap.size (w.alloc (.cells #[.int .i64 k, .int .i64 n, .slice a l.length cap] 24)) w1 := ext_alloc hb
  obtain ⟨c0, c1, c2⟩ := box3 hb0
  obtain ⟨p0, p1, q0, q1⟩ := box2r hb
  have HB := Lib.hid (ext_alloc hb0)
  have HS1 := Lib.hid (HS.out.below (ext_alloc hb0))
  clear hb0 hb HS
  go_wp2_with fail
  go_loop [6] (fun i => ∃ j : Nat, j ≤ l.length ∧ i = .int .i64 j ∧ j ≤ lo l (t + 1)) (fun i => l.length - (intOf i).toNat)
  case atStart => exact ⟨0, Nat.zero_le _, rfl, Nat.zero_le _⟩
  case round =>
    obtain ⟨j, hj, rfl, hgo⟩ := hrel
    by_cases hlt : j < l.length
    · obtain ⟨b, o, rfl, d0, d1⟩ := HS1.out.ch hlt
      by_cases hx : l[j].1 < t + 1
      · have hgo2 := lo_go hlt hgo hx
        generalize l[j] = c at d0 d1 hx
        obtain ⟨t', s'⟩ := c
        simp only at d0 d1 hx
        have hx' : t' ≤ t := by omega
        clear hgo hx
        go_wp2_with fail
        go_round
        case rel => exact ⟨j + 1, by omega, by go_num, hgo2⟩
        case measure => simp [intOf]; omega
      · have hlo := lo_stop hlt hgo hx
        have HR := Lib.hid (show nextR k n l t = (l[j], 0) by
          rw [HR0.out, hlo]; unfold chR; rw [if_neg (by omega), Int.toNat_natCast, List.getElem?_eq_getElem hlt])
        generalize l[j] = c at d0 d1 hx HR
        obtain ⟨t', s'⟩ := c
        simp only at d0 d1 hx
        have hx' : t < t' := by omega
        clear hgo hx hlo
        go_wp2_with fail
        refine bodyPost_ret (v := .tuple #[.agg #[.int .i64 t', .string s'], .int .i64 0]) (by simp [results, Tryz.results23, go_sem, p0, p1]) rfl ⟨by rw [HR.out], ?_⟩
        exact ((HB.out).setCell (by simp) _).setCell (by simp) _
    · have hlo : lo l (t + 1) = j := by have := lo_le l (t + 1); omega
      obtain rfl : j = l.length := by omega
      have HR := Lib.hid (show nextR k n l t = ((0, ⟨#[]⟩), 6) by
        rw [HR0.out, hlo]; unfold chR; rw [if_neg (by omega), Int.toNat_natCast, List.getElem?_eq_none (Nat.le_refl _)])
      clear hgo hlo
      go_wp2_with fail
      refine bodyPost_ret (v := .tuple #[.agg #[.int .i64 0, .string ⟨#[]⟩], .int .i64 6]) (by simp [results, Tryz.results23, go_sem, p0, p1]) rfl ⟨by rw [HR.out], ?_⟩
      exact ((HB.out).setCell (by simp) _).setCell (by simp) _

set_option maxHeartbeats 800000 in
set_option maxRecDepth 100000 in
theorem ref_Previous (k n : Int) (v : Value) (l : List Ch) (t : Int) (w : World) (hs : SlR w v l.length (chs l)) (hf : Fit l) :
    Calls Tryz.prog 25 #[.agg #[.int .i64 k, .int .i64 n, v], .int .i64 t] w (ChPost (prevR k n l t) w) := by
  by_cases hno : sv k n l = false ∨ t < 0 ∨ 1099511627777 < t
  · exact ref_Previous_no k n v l t w hs hf hno
  have hv : sv k n l = true := by
    cases h : sv k n l
    · exact absurd (.inl h) hno
    · rfl
  have ht' : ¬ (t < 0 ∨ 1099511627777 < t) := fun h => hno (.inr h)
  have ht : 0 ≤ t ∧ t ≤ 1099511627777 := by omega
  obtain ⟨ht0, ht1⟩ := ht
  clear hno ht'
  obtain ⟨a, cap, rfl, hc, hm⟩ := hs.shape
  have hbw : Below w.heap.size w ((w.alloc (.cells #[.int .i64 k, .int .i64 n, .slice a l.length cap] 24)).alloc (.cells #[.int .i64 0, .string ⟨#[]⟩] 36)) := ((Below.refl _ _).alloc (Nat.le_refl _) _).alloc (by simp) _
  have HV := Lib.hid (ref_sValid k n _ l _ (hs.below hbw) hf)
  have HS := Lib.hid hs
  have hln := hf.1
  unfold maxLen at hm
  have HR0 := Lib.hid (show prevR k n l t = chR l ((lo l t : Int) - 1) by unfold prevR; rw [if_neg (by rw [hv]; simp), if_neg (by omega)])
  have HST := Lib.hid (sv_sorted hv).1
  rw [hv] at HV
  clear hs hf hbw hv
  go_enter Tryz.func25, Tryz.ntmps25
  go_wp2_with fail
  refine HV.out.mono ?_
  rintro e w1 ⟨rfl, hb⟩
  have hb0 : Below (w.alloc (.cells #[.int .i64 k, .int .i64 n, .slice a l.length cap] 24)).heap.size (w.alloc (.cells #[.int .i64 k, .int .i64 n, .slice a l.length cap] 24)) w1 := ext_alloc hb
  obtain ⟨c0, c1, c2⟩ := box3 hb0
  obtain ⟨p0, p1, q0, q1⟩ := box2r hb
  have HB := Lib.hid (ext_alloc hb0)
  have HS1 := Lib.hid (HS.out.below (ext_alloc hb0))
  clear hb0 hb HS
  go_wp2_with fail
  go_loop [6] (fun i => ∃ j : Nat, j ≤ l.length ∧ i = .int .i64 ((j : Int) - 1) ∧ lo l t ≤ j) (fun i => (intOf i + 1).toNat)
  case atStart => exact ⟨l.length, Nat.le_refl _, rfl, lo_le l t⟩
  case round =>
    obtain ⟨j, hj, rfl, hgo⟩ := hrel
    by_cases hlt : 0 < j
    · obtain ⟨i, rfl⟩ : ∃ i, j = i + 1 := ⟨j - 1, by omega⟩
      have hil : i < l.length := by omega
      rw [show (((i + 1 : Nat) : Int) - 1) = (i : Int) by omega]
      obtain ⟨b, o, rfl, d0, d1⟩ := HS1.out.ch hil
      by_cases hx : l[i].1 < t
      · have hlo : lo l t = i + 1 := by have := (lo_lt l t HST.out i hil).1 hx; omega
        have HR := Lib.hid (show prevR k n l t = (l[i], 0) by
          rw [HR0.out, hlo, show (((i + 1 : Nat) : Int) - 1) = (i : Int) by omega]; unfold chR; rw [if_neg (by omega), Int.toNat_natCast, List.getElem?_eq_getElem hil])
        generalize l[i] = c at d0 d1 hx HR
        obtain ⟨t', s'⟩ := c
        simp only at d0 d1 hx
        clear hgo hlo
        go_wp2_with fail
        refine bodyPost_ret (v := .tuple #[.agg #[.int .i64 t', .string s'], .int .i64 0]) (by simp [results, Tryz.results25, go_sem, p0, p1]) rfl ⟨by rw [HR.out], ?_⟩
        exact ((HB.out).setCell (by simp) _).setCell (by simp) _
      · have hlo : lo l t ≤ i := by
          rcases Nat.lt_or_ge i (lo l t) with h | h
          · exact absurd ((lo_lt l t HST.out i hil).2 h) hx
          · exact h
        generalize l[i] = c at d0 d1 hx
        obtain ⟨t', s'⟩ := c
        simp only at d0 d1 hx
        have hx' : t ≤ t' := by omega
        clear hgo hx
        go_wp2_with fail
        go_round
        case rel => exact ⟨i, by omega, rfl, hlo⟩
        case measure => simp [intOf]; try omega
    · obtain rfl : j = 0 := by omega
      have hlo : lo l t = 0 := by omega
      have HR := Lib.hid (show prevR k n l t = ((0, ⟨#[]⟩), 6) by
        rw [HR0.out, hlo]; unfold chR; rw [if_pos (by omega)])
      clear hgo hlo
      rw [show (((0 : Nat) : Int) - 1) = -1 by omega]
      go_wp2_with fail
      refine bodyPost_ret (v := .tuple #[.agg #[.int .i64 0, .string ⟨#[]⟩], .int .i64 6]) (by simp [results, Tryz.results25, go_sem, p0, p1]) rfl ⟨by rw [HR.out], ?_⟩
      exact ((HB.out).setCell (by simp) _).setCell (by simp) _
end Go.Proofs.YtlbcfmhpkcpmaaaGreatDoor

namespace Go.Proofs.YtlbcfmhpkcpmaaaGreatDoor
open Go.RowKit

/-- wavestoreref22.Part -/
def partL (l : List Ch) (from_ to_ : Int) : List Ch := l.filter fun c => decide (from_ ≤ c.1) && decide (c.1 ≤ to_)
theorem partL_snoc (l : List Ch) (from_ to_ : Int) (j : Nat) (h : j < l.length) : partL (l.take (j + 1)) from_ to_ = partL (l.take j) from_ to_ ++ (if from_ ≤ l[j].1 ∧ l[j].1 ≤ to_ then [l[j]] else []) := by
  rw [List.take_succ_eq_append_getElem h]
  unfold partL
  rw [List.filter_append, List.filter_cons, List.filter_nil]
  congr 1
  by_cases h1 : from_ ≤ l[j].1 ∧ l[j].1 ≤ to_
  · rw [if_pos h1, if_pos (by simpa using h1)]
  · rw [if_neg h1, if_neg (by simpa using h1)]
theorem partL_len (l : List Ch) (from_ to_ : Int) : (partL l from_ to_).length ≤ l.length := List.length_filter_le _ _
theorem partL_all {from_ to_ : Int} {l : List Ch} (h : ∀ c ∈ l, from_ ≤ c.1 ∧ c.1 ≤ to_) : partL l from_ to_ = l := by
  unfold partL
  rw [List.filter_eq_self]
  intro c hc
  simpa using h c hc
theorem partL_none {from_ to_ : Int} {l : List Ch} (h : ∀ c ∈ l, c.1 < from_ ∨ to_ < c.1) : partL l from_ to_ = [] := by
  unfold partL
  rw [List.filter_eq_nil_iff]
  intro c hc
  have := h c hc
  simp; omega
theorem partL_app (l m : List Ch) (from_ to_ : Int) : partL (l ++ m) from_ to_ = partL l from_ to_ ++ partL m from_ to_ := List.filter_append ..
theorem lo_mono {l : List Ch} {a t t' : Int} (h : NonDec a l) (ht : t ≤ t') : lo l t ≤ lo l t' := by
  induction l generalizing a with
  | nil => exact Nat.le_refl _
  | cons c l ih =>
    by_cases hc : c.1 < t
    · rw [lo_cons_lt hc, lo_cons_lt (by omega)]
      have := ih h.2
      omega
    · rw [lo_cons_ge (by omega)]; exact Nat.zero_le _
theorem lo_full {t : Int} : ∀ {l : List Ch}, (∀ c ∈ l, c.1 < t) → lo l t = l.length
  | [], _ => rfl
  | c :: l, h => by rw [lo_cons_lt (h c List.mem_cons_self), lo_full fun d hd => h d (List.mem_cons_of_mem _ hd)]; rfl
/-- the changes from one time to another one, of sorted changes -/
theorem partL_sorted {l : List Ch} {a : Int} (h : NonDec a l) (from_ to_ : Int) (hft : from_ ≤ to_ + 1) : partL l from_ to_ = (l.take (lo l (to_ + 1))).drop (lo l from_) := by
  have hm := lo_mono h hft
  have h1 := lo_split from_ l a h
  have h2 := lo_split (to_ + 1) l a h
  conv => lhs; rw [← List.take_append_drop (lo l (to_ + 1)) l, partL_app]
  rw [partL_none (l := l.drop (lo l (to_ + 1))) (fun c hc => .inr (by have := h2.2.mem c hc; omega)), List.append_nil]
  conv => lhs; rw [← List.take_append_drop (lo l from_) (l.take (lo l (to_ + 1))), partL_app]
  rw [partL_none (l := (l.take (lo l (to_ + 1))).take (lo l from_)) (fun c hc => .inl (h1.1 c (by
    rw [List.take_take] at hc
    exact (List.take_sublist_take_left (by omega)).mem hc))), List.nil_append]
  refine partL_all fun c hc => ⟨?_, ?_⟩
  · have := h1.2.mem c (by
      rw [List.drop_take] at hc
      exact List.mem_of_mem_take hc)
    exact this
  · have := h2.1 c (List.mem_of_mem_drop hc)
    omega
theorem winR_part {k n : Int} {l : List Ch} (h : sv k n l = true) (from_ to_ : Int) : winR k n l from_ to_ = partL l from_ to_ := by
  unfold winR
  rw [if_neg (by rw [h]; simp)]
  have hm := sv_mem h
  split
  · exact (partL_none fun c hc => by omega).symm
  · rename_i hft
    by_cases hto : to_ ≤ 1099511627776
    · rw [partL_sorted (sv_nonDec h) _ _ (by omega), show min to_ 1099511627776 = to_ by omega]
    · have e : partL l from_ to_ = partL l from_ (max from_ 1099511627776) := by
        unfold partL
        refine List.filter_congr fun c hc => ?_
        have := hm c hc
        congr 1
        rw [decide_eq_decide]
        omega
      rw [e, partL_sorted (sv_nonDec h) _ _ (by omega)]
      have hl : ∀ t : Int, 1099511627776 < t → lo l t = l.length := fun t ht => lo_full fun c hc => by have := hm c hc; omega
      rw [hl (min to_ 1099511627776 + 1) (by omega), hl (max from_ 1099511627776 + 1) (by omega)]

set_option maxHeartbeats 1600000 in
set_option maxRecDepth 100000 in
theorem ref_Part (v : Value) (l : List Ch) (from_ to_ : Int) (w : World) (hs : SlR w v l.length (chs l)) (hl : l.length ≤ 1000000) :
    Calls Tryz.prog 59 #[v, .int .i64 from_, .int .i64 to_] w fun e w' => ∃ v', e = .returned v' ∧ w'.ownsRow w.heap.size 36 2 v' (partL l from_ to_).length (chs (partL l from_ to_)) ∧ Below w.heap.size w w' := by
  obtain ⟨a, cap, rfl, hc, hm⟩ := hs.shape
  have HS := Lib.hid hs
  unfold maxLen at hm
  obtain ⟨i0, hi, iz0, iz1, iz2⟩ := info_parts (P := Tryz.prog) change_info
  have HO1 := Lib.hid (World.ownsRow_made w #[] 0 (Nat.le_refl _) (Nat.zero_le _) rfl : (w.alloc (.cells #[] 36)).ownsRow w.heap.size 36 2 (.slice (some ⟨w.heap.size, 0, none⟩) 0 0) 0 [])
  have HB1 := Lib.hid ((Below.refl w.heap.size w).alloc (Nat.le_refl _) (.cells #[] 36))
  clear hs
  go_enter Tryz.func59, Tryz.ntmps59
  go_wp2_with fail
  go_loopw [7, 8] (fun o_ i wr => ∃ (j : Nat) (out : List Ch), j ≤ l.length ∧ i = .int .i64 j ∧ out.length ≤ j ∧ out = partL (l.take j) from_ to_ ∧ wr.ownsRow w.heap.size 36 2 o_ out.length (chs out) ∧ Below w.heap.size w wr)
    (fun _ i _ => l.length - (intOf i).toNat)
  case atStart => exact ⟨0, [], Nat.zero_le _, rfl, Nat.le_refl _, rfl, HO1.out, HB1.out⟩
  case round =>
    obtain ⟨j, out, hj, rfl, hol, hn, ho, hb⟩ := hrel
    obtain ⟨ao, co, rfl, hco, hmo⟩ := (SlR.of_own ho).shape
    have hsz := hb.size
    have HO := Lib.hid ho
    have HB2 := Lib.hid hb
    have HN := Lib.hid hn
    clear ho hb hn HB1 HO1
    by_cases hlt : j < l.length
    · obtain ⟨b, o, rfl, d0, d1⟩ := (HS.out.below HB2.out).ch hlt
      have HN2 : Hid (partL (l.take (j + 1)) from_ to_ = out ++ (if from_ ≤ l[j].1 ∧ l[j].1 ≤ to_ then [l[j]] else [])) := Lib.hid (by rw [partL_snoc l from_ to_ j hlt, HN.out])
      generalize l[j] = c at d0 d1 HN2
      obtain ⟨t, s⟩ := c
      simp only at d0 d1 HN2
      by_cases h1 : from_ ≤ t ∧ t ≤ to_
      · have HN3 := Lib.hid (show out ++ [(t, s)] = partL (l.take (j + 1)) from_ to_ by rw [HN2.out, if_pos h1])
        obtain ⟨h2, h3⟩ := h1
        have hcell := fun (W : World) => World.news_of_block (w := W.alloc (.cells #[.int .i64 t, .string s] 36)) (cs := #[.int .i64 t, .string s]) (t := 36) (fr := (0, 0)) (by exact heap_alloc_new W _)
        have HC := Lib.hid hcell
        clear hcell
        go_wp2_with (at_builtin; refine wpList_append_own _ rfl _ _ 22 rfl w.heap.size 36 i0 (.agg #[.int .i64 0, .string ⟨#[]⟩]) 2 24 Tryz.underlying22 hi iz0 iz1 iz2 rfl (by decide) _ _ _ rfl (World.ownsRow.alloc (by exact HO.out) _) ⟨wr.heap.size, 0, none⟩ 1 1 [.int .i64 t, .string s] rfl rfl (by exact HC.out _) (by simp [Value.oneCell']) (by unfold maxLen; omega) (by omega) (by simp; omega) ?_)
        intro v4 w4 ho4 hg4 _
        have HO4 := Lib.hid ho4
        have HB4 := Lib.hid (show Below w.heap.size w w4 from Below.grown (HB2.out.alloc (by simpa using hsz) _) hg4 (by simp; omega) (fun q hq => by have := (HO.out.lt q hq).1; simp; omega))
        clear ho4 hg4
        go_wp2_with fail
        go_roundw
        case rel => exact ⟨j + 1, out ++ [(t, s)], by omega, by go_num, by simp; omega, HN3.out, by rw [chs_append]; simpa [chs, encC] using HO4.out, HB4.out⟩
        case measure => simp [intOf]; omega
      · have HN3 := Lib.hid (show out = partL (l.take (j + 1)) from_ to_ by rw [HN2.out, if_neg h1, List.append_nil])
        rcases (show t < from_ ∨ (from_ ≤ t ∧ to_ < t) by omega) with h2 | ⟨h2, h3⟩
        all_goals
          clear h1
          go_wp2_with fail
          go_roundw
          case rel => exact ⟨j + 1, out, by omega, by go_num, by omega, HN3.out, HO.out, HB2.out⟩
          case measure => simp [intOf]; omega
    · obtain rfl : j = l.length := by omega
      have HE := Lib.hid (show out = partL l from_ to_ by have := HN.out; rwa [List.take_length] at this)
      go_wp2_with fail
      go_ret
      exact ⟨_, rfl, by rw [← HE.out]; exact HO.out, HB2.out⟩

set_option maxHeartbeats 400000 in
set_option maxRecDepth 100000 in
theorem ref_Window (k n : Int) (v : Value) (l : List Ch) (from_ to_ : Int) (w : World) (hs : SlR w v l.length (chs l)) (hf : Fit l) :
    Calls Tryz.prog 28 #[.agg #[.int .i64 k, .int .i64 n, v], .int .i64 from_, .int .i64 to_] w (WinPost (winR k n l from_ to_) w) := by
  obtain ⟨a, cap, rfl, hc, hm⟩ := hs.shape
  have hbw : Below w.heap.size w (w.alloc (.cells #[.int .i64 k, .int .i64 n, .slice a l.length cap] 24)) := (Below.refl _ _).alloc (Nat.le_refl _) _
  have HV := Lib.hid (ref_sValid k n _ l _ (hs.below hbw) hf)
  have HS := Lib.hid hs
  have hln := hf.1
  unfold maxLen at hm
  clear hs hf hbw
  cases hv : sv k n l
  · have HR := Lib.hid (show winR k n l from_ to_ = [] by unfold winR; rw [if_pos hv])
    rw [hv] at HV
    clear hv
    go_enter Tryz.func28, Tryz.ntmps28
    go_wp2_with fail
    refine HV.out.mono ?_
    rintro e w1 ⟨rfl, hb⟩
    go_wp2_with fail
    go_ret
    rw [HR.out]
    exact WinPost.nil (ext_alloc hb)
  · have HR := Lib.hid (winR_part hv from_ to_)
    rw [hv] at HV
    clear hv
    go_enter Tryz.func28, Tryz.ntmps28
    go_wp2_with fail
    refine HV.out.mono ?_
    rintro e w1 ⟨rfl, hb⟩
    obtain ⟨c0, c1, c2⟩ := box3 hb
    have HB := Lib.hid (ext_alloc hb)
    clear hb
    go_wp2_with fail
    refine (ref_Part _ l from_ to_ _ (HS.out.below HB.out) hln).mono ?_
    rintro e w2 ⟨v2, rfl, ho, hb⟩
    obtain ⟨a2, c2, rfl, -, -⟩ := (SlR.of_own ho).shape
    have HO := Lib.hid ho
    have HB2 := Lib.hid (ext_trans HB.out hb)
    clear ho hb
    go_wp2_with fail
    go_ret
    rw [HR.out]
    exact ⟨_, rfl, SlR.of_own HO.out, HB2.out⟩
end Go.Proofs.YtlbcfmhpkcpmaaaGreatDoor
