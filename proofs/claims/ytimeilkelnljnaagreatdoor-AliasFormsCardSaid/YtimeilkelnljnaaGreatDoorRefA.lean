import Derived.Test.YtimeilkelnljnaaGreatDoorSig1
namespace Go.Proofs.YtimeilkelnljnaaGreatDoor
open Go.RowKit

/-- wavestoreref22.Few -/
def fewV (l : List Ch) : Bool := l.all fun c => decide (c.2.size ≤ 200)
def few (l : List Ch) (n : Int) : Bool := fewV l && decide ((l.length : Int) ≤ n)

set_option maxHeartbeats 800000 in
set_option maxRecDepth 100000 in
theorem ref_Few (v : Value) (l : List Ch) (n : Int) (w : World) (hs : SlR w v l.length (chs l)) :
    Calls Tryz.prog 33 #[v, .int .i64 n] w fun e w' => e = .returned (.bool (few l n)) ∧ w' = w := by
  obtain ⟨a, cap, rfl, hc, hm⟩ := hs.shape
  unfold maxLen at hm
  have HS := Lib.hid hs
  clear hs
  go_enter Tryz.func33, Tryz.ntmps33
  go_wp2_with fail
  go_loopw [5] (fun i wr => ∃ (j : Nat), j ≤ l.length ∧ i = .int .i64 j ∧ fewV (l.drop j) = fewV l ∧ wr = w)
    (fun i _ => l.length - (intOf i).toNat)
  case atStart => exact ⟨0, Nat.zero_le _, rfl, rfl, rfl⟩
  case round =>
    obtain ⟨j, hj, rfl, hgo, rfl⟩ := hrel
    have HGO := Lib.hid hgo
    clear hgo
    by_cases hlt : j < l.length
    · obtain ⟨b, o, rfl, d0, d1⟩ := HS.out.ch hlt
      have HGO2 : Hid ((decide (l[j].2.size ≤ 200) && fewV (l.drop (j + 1))) = fewV l) := Lib.hid (by
        have := HGO.out
        rw [List.drop_eq_getElem_cons hlt, fewV, List.all_cons] at this
        exact this)
      generalize l[j] = c at d0 d1 HGO2
      obtain ⟨t, s⟩ := c
      simp only at d0 d1
      by_cases hA : s.size ≤ 200
      · have HGO3 : Hid (fewV (l.drop (j + 1)) = fewV l) := Lib.hid (by rw [← HGO2.out]; simp [hA])
        have hw : IntKind.i64.wrap ((j : Int) + 1) = (j : Int) + 1 := IntWalk.i64_in _ (by omega)
        go_wp2_with fail
        go_roundw
        case rel => exact ⟨j + 1, by omega, by go_num, HGO3.out, trivial⟩
        case measure => simp [intOf]; omega
      · have e : fewV l = false := by rw [← HGO2.out]; simp [hA]
        have E2 := Lib.hid (show few l n = false by simp [few, e])
        clear e
        have hA' : 200 < s.size := by omega
        clear hA
        go_wp2_with fail
        go_ret
        exact ⟨ret_bool E2.out.symm, rfl⟩
    · have e : fewV l = true := by rw [← HGO.out, List.drop_eq_nil_iff.2 (by omega)]; rfl
      have E2 := Lib.hid (show few l n = decide ((l.length : Int) ≤ n) by simp [few, e])
      have hj' : l.length = j := by omega
      subst hj'
      clear e hlt
      go_wp2_with fail
      go_ret
      exact ⟨ret_bool E2.out.symm, rfl⟩

def sameC (l m : List Ch) : Bool := decide (l = m)

set_option maxHeartbeats 800000 in
set_option maxRecDepth 100000 in
theorem ref_SameChanges (v u : Value) (l m : List Ch) (w : World) (hs : SlR w v l.length (chs l)) (ht : SlR w u m.length (chs m)) :
    Calls Tryz.prog 82 #[v, u] w fun e w' => e = .returned (.bool (sameC l m)) ∧ Below w.heap.size w w' := by
  obtain ⟨a, cap, rfl, hc, hm⟩ := hs.shape
  obtain ⟨a2, cap2, rfl, hc2, hm2⟩ := ht.shape
  unfold maxLen at hm hm2
  have HS := Lib.hid hs
  have HT := Lib.hid ht
  clear hs ht
  by_cases hne : l.length ≠ m.length
  · have E := Lib.hid (show sameC l m = false by unfold sameC; rw [decide_eq_false_iff_not]; intro h; exact hne (by rw [h]))
    have hb : ((l.length : Int) != (m.length : Int)) = true := by rw [bne_iff_ne]; omega
    clear hne
    go_enter Tryz.func82, Tryz.ntmps82
    go_wp2_with fail
    go_ret
    exact ⟨ret_bool E.out.symm, Below.refl _ _⟩
  have hlen : l.length = m.length := by omega
  have E := Lib.hid (show sameC l m = decide (l = m) from rfl)
  have hb : ((l.length : Int) != (m.length : Int)) = false := by rw [hlen]; simp
  clear hne
  go_enter Tryz.func82, Tryz.ntmps82
  go_wp2_with fail
  go_loopw [5] (fun i wr => ∃ (j : Nat), j ≤ l.length ∧ i = .int .i64 j ∧ l.take j = m.take j ∧ Below w.heap.size w wr)
    (fun i _ => l.length - (intOf i).toNat)
  case atStart => exact ⟨0, Nat.zero_le _, rfl, rfl, Below.refl _ _⟩
  case round =>
    obtain ⟨j, hj, rfl, hgo, hbw⟩ := hrel
    have HGO := Lib.hid hgo
    have HB := Lib.hid hbw
    clear hgo hbw
    by_cases hlt : j < l.length
    · obtain ⟨b, o, rfl, d0, d1⟩ := (HS.out.below HB.out).ch hlt
      obtain ⟨b2, o2, rfl, g0, g1⟩ := (HT.out.below HB.out).ch (show j < m.length by omega)
      have hlt2 : j < m.length := by omega
      have q1 : (0 : Int) ≤ (j : Int) := by omega
      have q2 : (j : Int) < (l.length : Int) := by omega
      have q3 : (j : Int) < (m.length : Int) := by omega
      have hw : IntKind.i64.wrap ((j : Int) + 1) = (j : Int) + 1 := IntWalk.i64_in _ (by omega)
      by_cases he : l[j] = m[j]
      · have HGO2 : Hid (l.take (j + 1) = m.take (j + 1)) := Lib.hid (by rw [List.take_succ_eq_append_getElem hlt, List.take_succ_eq_append_getElem hlt2, HGO.out, he])
        rw [← he] at g0 g1
        generalize l[j] = c at d0 d1 g0 g1
        clear he
        obtain ⟨t, s⟩ := c
        simp only at d0 d1 g0 g1
        go_wp2_with fail
        go_quiet (fail)
        go_wp2_with fail
        go_roundw
        case rel => exact ⟨j + 1, by omega, by go_num, HGO2.out, below_drewN HB.out _⟩
        case measure => simp [intOf]; omega
      · have E2 := Lib.hid (show sameC l m = false by unfold sameC; rw [decide_eq_false_iff_not]; intro h; subst h; exact he rfl)
        have hne : ¬ (l[j].1 = m[j].1 ∧ l[j].2 = m[j].2) := fun h => he (Prod.ext h.1 h.2)
        generalize l[j] = c at d0 d1 hne
        generalize m[j] = c' at g0 g1 hne
        clear he
        obtain ⟨t, s⟩ := c
        obtain ⟨t', s'⟩ := c'
        simp only at d0 d1 g0 g1 hne
        by_cases htt : t = t'
        · subst htt
          have hss := ba_ne (fun h => hne ⟨rfl, h⟩ : s ≠ s')
          clear hne
          go_wp2_with fail
          go_quiet (fail)
          go_wp2_with fail
          go_ret
          exact ⟨ret_bool E2.out.symm, below_drewN HB.out _⟩
        · have htb : (t == t') = false := by rw [beq_eq_false_iff_ne]; exact htt
          clear hne
          go_wp2_with fail
          go_quiet (fail)
          go_wp2_with fail
          go_ret
          exact ⟨ret_bool E2.out.symm, below_drewN HB.out _⟩
    · have hj' : j = l.length := by omega
      subst hj'
      have E2 := Lib.hid (show sameC l m = true by unfold sameC; rw [decide_eq_true_iff]; have := HGO.out; rwa [List.take_length, hlen, List.take_length] at this)
      clear hlt
      go_wp2_with fail
      go_ret
      exact ⟨ret_bool E2.out.symm, HB.out⟩
end Go.Proofs.YtimeilkelnljnaaGreatDoor
