import Derived.Test.YtbiadennhnokhaaGreatDoorZ01
import Derived.Test.YtbiadennhnokhaaGreatDoorZ09
/- slices.Equal at scopes, variables and gaps. -/
namespace Go.Proofs.YtbiadennhnokhaaGreatDoor
open Go.RowKit
set_option linter.unusedSimpArgs false

theorem bs_ne {s t : Bs} (h : s ≠ t) : bsB s ≠ bsB t := fun e => h (by have := congrArg (fun b => b.data.toList) e; simpa [bsB] using this)
set_option maxHeartbeats 1600000 in
set_option maxRecDepth 100000 in
theorem eq_scs (v u : Value) (l m : List (Sc)) (w : World) (hs : SlR w v l.length (scs l)) (ht : SlR w u m.length (scs m)) :
    Calls Tryz.prog 73 #[v, u] w fun e w' => e = .returned (.bool (decide (l = m))) ∧ Below w.heap.size w w' := by
  obtain ⟨a, cap, rfl, hc, hm⟩ := hs.shape
  obtain ⟨a2, cap2, rfl, hc2, hm2⟩ := ht.shape
  unfold maxLen at hm hm2
  have HS := Lib.hid hs
  have HT := Lib.hid ht
  clear hs ht
  obtain ⟨R, hR⟩ : ∃ R, R = decide (l = m) := ⟨_, rfl⟩
  rw [← hR]
  by_cases hne : l.length ≠ m.length
  · have E := Lib.hid (show R = false by rw [hR, decide_eq_false_iff_not]; intro h; exact hne (by rw [h]))
    have hb : ((l.length : Int) != (m.length : Int)) = true := by rw [bne_iff_ne]; omega
    clear hne hR
    go_enter Tryz.func73, Tryz.ntmps73
    go_wp2_with fail
    go_ret
    exact ⟨ret_bool E.out.symm, Below.refl _ _⟩
  have hlen : l.length = m.length := by omega
  have HLEN := Lib.hid hlen
  have HR := Lib.hid hR
  have hb : ((l.length : Int) != (m.length : Int)) = false := by rw [hlen]; simp
  clear hne hlen hR
  go_enter Tryz.func73, Tryz.ntmps73
  go_wp2_with fail
  go_loopw [13] (fun i wr => ∃ (j : Nat), j ≤ l.length ∧ i = .int .i64 j ∧ l.take j = m.take j ∧ Below w.heap.size w wr)
    (fun i _ => l.length - (intOf i).toNat)
  case atStart => exact ⟨0, Nat.zero_le _, rfl, rfl, Below.refl _ _⟩
  case round =>
    obtain ⟨j, hj, rfl, hgo, hbw⟩ := hrel
    have HGO := Lib.hid hgo
    have HB := Lib.hid hbw
    clear hgo hbw
    by_cases hlt : j < l.length
    · have hlt2 : j < m.length := by have := HLEN.out; omega
      obtain ⟨b, o, rfl, hcell⟩ := (HS.out.below HB.out).scs hlt
      obtain ⟨b2, o2, rfl, hcell2⟩ := (HT.out.below HB.out).scs hlt2
      have q1 : (0 : Int) ≤ (j : Int) := by omega
      have q2 : (j : Int) < (l.length : Int) := by omega
      have q3 : (j : Int) < (m.length : Int) := by omega
      have hw : IntKind.i64.wrap ((j : Int) + 1) = (j : Int) + 1 := IntWalk.i64_in _ (by omega)
      by_cases he : l[j] = m[j]
      · have HGO2 : Hid (l.take (j + 1) = m.take (j + 1)) := Lib.hid (by rw [List.take_succ_eq_append_getElem hlt, List.take_succ_eq_append_getElem hlt2, HGO.out, he])
        rw [← he] at hcell2
        generalize l[j] = c at hcell hcell2
        obtain ⟨c2, hc2⟩ : ∃ c2, c2 = c := ⟨_, rfl⟩
        rw [← hc2] at hcell2
        clear he
        obtain ⟨nm, ty, sc⟩ := c
        obtain ⟨nm2, ty2, sc2⟩ := c2
        have d0 : wr.cell? ⟨b, o + j * 3, none⟩ = some (.string (bsB nm)) := hcell 0 _ rfl
        have d1 : wr.cell? ⟨b, o + j * 3 + 1, none⟩ = some (.int .i64 ty) := hcell 1 _ rfl
        have d2 : wr.cell? ⟨b, o + j * 3 + 2, none⟩ = some (.int .i64 sc) := hcell 2 _ rfl
        have g0 : wr.cell? ⟨b2, o2 + j * 3, none⟩ = some (.string (bsB nm2)) := hcell2 0 _ rfl
        have g1 : wr.cell? ⟨b2, o2 + j * 3 + 1, none⟩ = some (.int .i64 ty2) := hcell2 1 _ rfl
        have g2 : wr.cell? ⟨b2, o2 + j * 3 + 2, none⟩ = some (.int .i64 sc2) := hcell2 2 _ rfl
        cases hc2
        clear hcell hcell2
        go_wp2_with fail
        go_quiet (fail)
        go_wp2_with fail
        go_roundw
        case rel => exact ⟨j + 1, by omega, by go_num, HGO2.out, below_drewN HB.out _⟩
        case measure => simp [intOf]; omega
      · have E2 := Lib.hid (show R = false by rw [HR.out, decide_eq_false_iff_not]; intro h; subst h; exact he rfl)
        generalize l[j] = c at hcell he
        generalize m[j] = c2 at hcell2 he
        have hne := he
        clear he
        obtain ⟨nm, ty, sc⟩ := c
        obtain ⟨nm2, ty2, sc2⟩ := c2
        have d0 : wr.cell? ⟨b, o + j * 3, none⟩ = some (.string (bsB nm)) := hcell 0 _ rfl
        have d1 : wr.cell? ⟨b, o + j * 3 + 1, none⟩ = some (.int .i64 ty) := hcell 1 _ rfl
        have d2 : wr.cell? ⟨b, o + j * 3 + 2, none⟩ = some (.int .i64 sc) := hcell 2 _ rfl
        have g0 : wr.cell? ⟨b2, o2 + j * 3, none⟩ = some (.string (bsB nm2)) := hcell2 0 _ rfl
        have g1 : wr.cell? ⟨b2, o2 + j * 3 + 1, none⟩ = some (.int .i64 ty2) := hcell2 1 _ rfl
        have g2 : wr.cell? ⟨b2, o2 + j * 3 + 2, none⟩ = some (.int .i64 sc2) := hcell2 2 _ rfl
        clear hcell hcell2
        by_cases h0 : nm = nm2
        rotate_left
        · have hss := ba_ne (bs_ne h0)
          clear h0 hne
          go_wp2_with fail
          go_quiet (fail)
          go_wp2_with fail
          go_ret
          exact ⟨ret_bool E2.out.symm, below_drewN HB.out _⟩
        subst h0
        by_cases h1 : ty = ty2
        rotate_left
        · skip
          have hnb : (ty == ty2) = false := by rw [beq_eq_false_iff_ne]; assumption
          clear h1 hne
          go_wp2_with fail
          go_quiet (fail)
          go_wp2_with fail
          go_ret
          exact ⟨ret_bool E2.out.symm, below_drewN HB.out _⟩
        subst h1
        by_cases h2 : sc = sc2
        rotate_left
        · skip
          have hnb : (sc == sc2) = false := by rw [beq_eq_false_iff_ne]; assumption
          clear h2 hne
          go_wp2_with fail
          go_quiet (fail)
          go_wp2_with fail
          go_ret
          exact ⟨ret_bool E2.out.symm, below_drewN HB.out _⟩
        subst h2
        exact absurd rfl hne
    · have hj' : j = l.length := by omega
      subst hj'
      have E2 := Lib.hid (show R = true by rw [HR.out, decide_eq_true_iff]; have := HGO.out; rwa [List.take_length, HLEN.out, List.take_length] at this)
      clear hlt
      go_wp2_with fail
      go_ret
      exact ⟨ret_bool E2.out.symm, HB.out⟩
set_option maxHeartbeats 1600000 in
set_option maxRecDepth 100000 in
theorem eq_vrs (v u : Value) (l m : List (Vr)) (w : World) (hs : SlR w v l.length (vrs l)) (ht : SlR w u m.length (vrs m)) :
    Calls Tryz.prog 74 #[v, u] w fun e w' => e = .returned (.bool (decide (l = m))) ∧ Below w.heap.size w w' := by
  obtain ⟨a, cap, rfl, hc, hm⟩ := hs.shape
  obtain ⟨a2, cap2, rfl, hc2, hm2⟩ := ht.shape
  unfold maxLen at hm hm2
  have HS := Lib.hid hs
  have HT := Lib.hid ht
  clear hs ht
  obtain ⟨R, hR⟩ : ∃ R, R = decide (l = m) := ⟨_, rfl⟩
  rw [← hR]
  by_cases hne : l.length ≠ m.length
  · have E := Lib.hid (show R = false by rw [hR, decide_eq_false_iff_not]; intro h; exact hne (by rw [h]))
    have hb : ((l.length : Int) != (m.length : Int)) = true := by rw [bne_iff_ne]; omega
    clear hne hR
    go_enter Tryz.func74, Tryz.ntmps74
    go_wp2_with fail
    go_ret
    exact ⟨ret_bool E.out.symm, Below.refl _ _⟩
  have hlen : l.length = m.length := by omega
  have HLEN := Lib.hid hlen
  have HR := Lib.hid hR
  have hb : ((l.length : Int) != (m.length : Int)) = false := by rw [hlen]; simp
  clear hne hlen hR
  go_enter Tryz.func74, Tryz.ntmps74
  go_wp2_with fail
  go_loopw [13] (fun i wr => ∃ (j : Nat), j ≤ l.length ∧ i = .int .i64 j ∧ l.take j = m.take j ∧ Below w.heap.size w wr)
    (fun i _ => l.length - (intOf i).toNat)
  case atStart => exact ⟨0, Nat.zero_le _, rfl, rfl, Below.refl _ _⟩
  case round =>
    obtain ⟨j, hj, rfl, hgo, hbw⟩ := hrel
    have HGO := Lib.hid hgo
    have HB := Lib.hid hbw
    clear hgo hbw
    by_cases hlt : j < l.length
    · have hlt2 : j < m.length := by have := HLEN.out; omega
      obtain ⟨b, o, rfl, hcell⟩ := (HS.out.below HB.out).vrs hlt
      obtain ⟨b2, o2, rfl, hcell2⟩ := (HT.out.below HB.out).vrs hlt2
      have q1 : (0 : Int) ≤ (j : Int) := by omega
      have q2 : (j : Int) < (l.length : Int) := by omega
      have q3 : (j : Int) < (m.length : Int) := by omega
      have hw : IntKind.i64.wrap ((j : Int) + 1) = (j : Int) + 1 := IntWalk.i64_in _ (by omega)
      by_cases he : l[j] = m[j]
      · have HGO2 : Hid (l.take (j + 1) = m.take (j + 1)) := Lib.hid (by rw [List.take_succ_eq_append_getElem hlt, List.take_succ_eq_append_getElem hlt2, HGO.out, he])
        rw [← he] at hcell2
        generalize l[j] = c at hcell hcell2
        obtain ⟨c2, hc2⟩ : ∃ c2, c2 = c := ⟨_, rfl⟩
        rw [← hc2] at hcell2
        clear he
        obtain ⟨nm, ty, sc, sg, rg, mb, lb⟩ := c
        obtain ⟨nm2, ty2, sc2, sg2, rg2, mb2, lb2⟩ := c2
        have d0 : wr.cell? ⟨b, o + j * 7, none⟩ = some (.string (bsB nm)) := hcell 0 _ rfl
        have d1 : wr.cell? ⟨b, o + j * 7 + 1, none⟩ = some (.int .i64 ty) := hcell 1 _ rfl
        have d2 : wr.cell? ⟨b, o + j * 7 + 2, none⟩ = some (.int .i64 sc) := hcell 2 _ rfl
        have d3 : wr.cell? ⟨b, o + j * 7 + 3, none⟩ = some (.int .i64 sg) := hcell 3 _ rfl
        have d4 : wr.cell? ⟨b, o + j * 7 + 4, none⟩ = some (.bool rg) := hcell 4 _ rfl
        have d5 : wr.cell? ⟨b, o + j * 7 + 5, none⟩ = some (.int .i64 mb) := hcell 5 _ rfl
        have d6 : wr.cell? ⟨b, o + j * 7 + 6, none⟩ = some (.int .i64 lb) := hcell 6 _ rfl
        have g0 : wr.cell? ⟨b2, o2 + j * 7, none⟩ = some (.string (bsB nm2)) := hcell2 0 _ rfl
        have g1 : wr.cell? ⟨b2, o2 + j * 7 + 1, none⟩ = some (.int .i64 ty2) := hcell2 1 _ rfl
        have g2 : wr.cell? ⟨b2, o2 + j * 7 + 2, none⟩ = some (.int .i64 sc2) := hcell2 2 _ rfl
        have g3 : wr.cell? ⟨b2, o2 + j * 7 + 3, none⟩ = some (.int .i64 sg2) := hcell2 3 _ rfl
        have g4 : wr.cell? ⟨b2, o2 + j * 7 + 4, none⟩ = some (.bool rg2) := hcell2 4 _ rfl
        have g5 : wr.cell? ⟨b2, o2 + j * 7 + 5, none⟩ = some (.int .i64 mb2) := hcell2 5 _ rfl
        have g6 : wr.cell? ⟨b2, o2 + j * 7 + 6, none⟩ = some (.int .i64 lb2) := hcell2 6 _ rfl
        cases hc2
        clear hcell hcell2
        go_wp2_with fail
        go_quiet (fail)
        go_wp2_with fail
        go_roundw
        case rel => exact ⟨j + 1, by omega, by go_num, HGO2.out, below_drewN HB.out _⟩
        case measure => simp [intOf]; omega
      · have E2 := Lib.hid (show R = false by rw [HR.out, decide_eq_false_iff_not]; intro h; subst h; exact he rfl)
        generalize l[j] = c at hcell he
        generalize m[j] = c2 at hcell2 he
        have hne := he
        clear he
        obtain ⟨nm, ty, sc, sg, rg, mb, lb⟩ := c
        obtain ⟨nm2, ty2, sc2, sg2, rg2, mb2, lb2⟩ := c2
        have d0 : wr.cell? ⟨b, o + j * 7, none⟩ = some (.string (bsB nm)) := hcell 0 _ rfl
        have d1 : wr.cell? ⟨b, o + j * 7 + 1, none⟩ = some (.int .i64 ty) := hcell 1 _ rfl
        have d2 : wr.cell? ⟨b, o + j * 7 + 2, none⟩ = some (.int .i64 sc) := hcell 2 _ rfl
        have d3 : wr.cell? ⟨b, o + j * 7 + 3, none⟩ = some (.int .i64 sg) := hcell 3 _ rfl
        have d4 : wr.cell? ⟨b, o + j * 7 + 4, none⟩ = some (.bool rg) := hcell 4 _ rfl
        have d5 : wr.cell? ⟨b, o + j * 7 + 5, none⟩ = some (.int .i64 mb) := hcell 5 _ rfl
        have d6 : wr.cell? ⟨b, o + j * 7 + 6, none⟩ = some (.int .i64 lb) := hcell 6 _ rfl
        have g0 : wr.cell? ⟨b2, o2 + j * 7, none⟩ = some (.string (bsB nm2)) := hcell2 0 _ rfl
        have g1 : wr.cell? ⟨b2, o2 + j * 7 + 1, none⟩ = some (.int .i64 ty2) := hcell2 1 _ rfl
        have g2 : wr.cell? ⟨b2, o2 + j * 7 + 2, none⟩ = some (.int .i64 sc2) := hcell2 2 _ rfl
        have g3 : wr.cell? ⟨b2, o2 + j * 7 + 3, none⟩ = some (.int .i64 sg2) := hcell2 3 _ rfl
        have g4 : wr.cell? ⟨b2, o2 + j * 7 + 4, none⟩ = some (.bool rg2) := hcell2 4 _ rfl
        have g5 : wr.cell? ⟨b2, o2 + j * 7 + 5, none⟩ = some (.int .i64 mb2) := hcell2 5 _ rfl
        have g6 : wr.cell? ⟨b2, o2 + j * 7 + 6, none⟩ = some (.int .i64 lb2) := hcell2 6 _ rfl
        clear hcell hcell2
        by_cases h0 : nm = nm2
        rotate_left
        · have hss := ba_ne (bs_ne h0)
          clear h0 hne
          go_wp2_with fail
          go_quiet (fail)
          go_wp2_with fail
          go_ret
          exact ⟨ret_bool E2.out.symm, below_drewN HB.out _⟩
        subst h0
        by_cases h1 : ty = ty2
        rotate_left
        · skip
          have hnb : (ty == ty2) = false := by rw [beq_eq_false_iff_ne]; assumption
          clear h1 hne
          go_wp2_with fail
          go_quiet (fail)
          go_wp2_with fail
          go_ret
          exact ⟨ret_bool E2.out.symm, below_drewN HB.out _⟩
        subst h1
        by_cases h2 : sc = sc2
        rotate_left
        · skip
          have hnb : (sc == sc2) = false := by rw [beq_eq_false_iff_ne]; assumption
          clear h2 hne
          go_wp2_with fail
          go_quiet (fail)
          go_wp2_with fail
          go_ret
          exact ⟨ret_bool E2.out.symm, below_drewN HB.out _⟩
        subst h2
        by_cases h3 : sg = sg2
        rotate_left
        · skip
          have hnb : (sg == sg2) = false := by rw [beq_eq_false_iff_ne]; assumption
          clear h3 hne
          go_wp2_with fail
          go_quiet (fail)
          go_wp2_with fail
          go_ret
          exact ⟨ret_bool E2.out.symm, below_drewN HB.out _⟩
        subst h3
        by_cases h4 : rg = rg2
        rotate_left
        · skip
          have hnb : (rg == rg2) = false := by rw [beq_eq_false_iff_ne]; assumption
          clear h4 hne
          go_wp2_with fail
          go_quiet (fail)
          go_wp2_with fail
          go_ret
          exact ⟨ret_bool E2.out.symm, below_drewN HB.out _⟩
        subst h4
        by_cases h5 : mb = mb2
        rotate_left
        · skip
          have hnb : (mb == mb2) = false := by rw [beq_eq_false_iff_ne]; assumption
          clear h5 hne
          go_wp2_with fail
          go_quiet (fail)
          go_wp2_with fail
          go_ret
          exact ⟨ret_bool E2.out.symm, below_drewN HB.out _⟩
        subst h5
        by_cases h6 : lb = lb2
        rotate_left
        · skip
          have hnb : (lb == lb2) = false := by rw [beq_eq_false_iff_ne]; assumption
          clear h6 hne
          go_wp2_with fail
          go_quiet (fail)
          go_wp2_with fail
          go_ret
          exact ⟨ret_bool E2.out.symm, below_drewN HB.out _⟩
        subst h6
        exact absurd rfl hne
    · have hj' : j = l.length := by omega
      subst hj'
      have E2 := Lib.hid (show R = true by rw [HR.out, decide_eq_true_iff]; have := HGO.out; rwa [List.take_length, HLEN.out, List.take_length] at this)
      clear hlt
      go_wp2_with fail
      go_ret
      exact ⟨ret_bool E2.out.symm, HB.out⟩
set_option maxHeartbeats 1600000 in
set_option maxRecDepth 100000 in
theorem eq_gps (v u : Value) (l m : List (Int × Int)) (w : World) (hs : SlR w v l.length (gps l)) (ht : SlR w u m.length (gps m)) :
    Calls Tryz.prog 32 #[v, u] w fun e w' => e = .returned (.bool (decide (l = m))) ∧ Below w.heap.size w w' := by
  obtain ⟨a, cap, rfl, hc, hm⟩ := hs.shape
  obtain ⟨a2, cap2, rfl, hc2, hm2⟩ := ht.shape
  unfold maxLen at hm hm2
  have HS := Lib.hid hs
  have HT := Lib.hid ht
  clear hs ht
  obtain ⟨R, hR⟩ : ∃ R, R = decide (l = m) := ⟨_, rfl⟩
  rw [← hR]
  by_cases hne : l.length ≠ m.length
  · have E := Lib.hid (show R = false by rw [hR, decide_eq_false_iff_not]; intro h; exact hne (by rw [h]))
    have hb : ((l.length : Int) != (m.length : Int)) = true := by rw [bne_iff_ne]; omega
    clear hne hR
    go_enter Tryz.func32, Tryz.ntmps32
    go_wp2_with fail
    go_ret
    exact ⟨ret_bool E.out.symm, Below.refl _ _⟩
  have hlen : l.length = m.length := by omega
  have HLEN := Lib.hid hlen
  have HR := Lib.hid hR
  have hb : ((l.length : Int) != (m.length : Int)) = false := by rw [hlen]; simp
  clear hne hlen hR
  go_enter Tryz.func32, Tryz.ntmps32
  go_wp2_with fail
  go_loopw [13] (fun i wr => ∃ (j : Nat), j ≤ l.length ∧ i = .int .i64 j ∧ l.take j = m.take j ∧ Below w.heap.size w wr)
    (fun i _ => l.length - (intOf i).toNat)
  case atStart => exact ⟨0, Nat.zero_le _, rfl, rfl, Below.refl _ _⟩
  case round =>
    obtain ⟨j, hj, rfl, hgo, hbw⟩ := hrel
    have HGO := Lib.hid hgo
    have HB := Lib.hid hbw
    clear hgo hbw
    by_cases hlt : j < l.length
    · have hlt2 : j < m.length := by have := HLEN.out; omega
      obtain ⟨b, o, rfl, hcell⟩ := (HS.out.below HB.out).gps hlt
      obtain ⟨b2, o2, rfl, hcell2⟩ := (HT.out.below HB.out).gps hlt2
      have q1 : (0 : Int) ≤ (j : Int) := by omega
      have q2 : (j : Int) < (l.length : Int) := by omega
      have q3 : (j : Int) < (m.length : Int) := by omega
      have hw : IntKind.i64.wrap ((j : Int) + 1) = (j : Int) + 1 := IntWalk.i64_in _ (by omega)
      by_cases he : l[j] = m[j]
      · have HGO2 : Hid (l.take (j + 1) = m.take (j + 1)) := Lib.hid (by rw [List.take_succ_eq_append_getElem hlt, List.take_succ_eq_append_getElem hlt2, HGO.out, he])
        rw [← he] at hcell2
        generalize l[j] = c at hcell hcell2
        obtain ⟨c2, hc2⟩ : ∃ c2, c2 = c := ⟨_, rfl⟩
        rw [← hc2] at hcell2
        clear he
        obtain ⟨ty, sc⟩ := c
        obtain ⟨ty2, sc2⟩ := c2
        have d0 : wr.cell? ⟨b, o + j * 2, none⟩ = some (.int .i64 ty) := hcell 0 _ rfl
        have d1 : wr.cell? ⟨b, o + j * 2 + 1, none⟩ = some (.int .i64 sc) := hcell 1 _ rfl
        have g0 : wr.cell? ⟨b2, o2 + j * 2, none⟩ = some (.int .i64 ty2) := hcell2 0 _ rfl
        have g1 : wr.cell? ⟨b2, o2 + j * 2 + 1, none⟩ = some (.int .i64 sc2) := hcell2 1 _ rfl
        cases hc2
        clear hcell hcell2
        go_wp2_with fail
        go_quiet (fail)
        go_wp2_with fail
        go_roundw
        case rel => exact ⟨j + 1, by omega, by go_num, HGO2.out, below_drewN HB.out _⟩
        case measure => simp [intOf]; omega
      · have E2 := Lib.hid (show R = false by rw [HR.out, decide_eq_false_iff_not]; intro h; subst h; exact he rfl)
        generalize l[j] = c at hcell he
        generalize m[j] = c2 at hcell2 he
        have hne := he
        clear he
        obtain ⟨ty, sc⟩ := c
        obtain ⟨ty2, sc2⟩ := c2
        have d0 : wr.cell? ⟨b, o + j * 2, none⟩ = some (.int .i64 ty) := hcell 0 _ rfl
        have d1 : wr.cell? ⟨b, o + j * 2 + 1, none⟩ = some (.int .i64 sc) := hcell 1 _ rfl
        have g0 : wr.cell? ⟨b2, o2 + j * 2, none⟩ = some (.int .i64 ty2) := hcell2 0 _ rfl
        have g1 : wr.cell? ⟨b2, o2 + j * 2 + 1, none⟩ = some (.int .i64 sc2) := hcell2 1 _ rfl
        clear hcell hcell2
        by_cases h1 : ty = ty2
        rotate_left
        · skip
          have hnb : (ty == ty2) = false := by rw [beq_eq_false_iff_ne]; assumption
          clear h1 hne
          go_wp2_with fail
          go_quiet (fail)
          go_wp2_with fail
          go_ret
          exact ⟨ret_bool E2.out.symm, below_drewN HB.out _⟩
        subst h1
        by_cases h2 : sc = sc2
        rotate_left
        · skip
          have hnb : (sc == sc2) = false := by rw [beq_eq_false_iff_ne]; assumption
          clear h2 hne
          go_wp2_with fail
          go_quiet (fail)
          go_wp2_with fail
          go_ret
          exact ⟨ret_bool E2.out.symm, below_drewN HB.out _⟩
        subst h2
        exact absurd rfl hne
    · have hj' : j = l.length := by omega
      subst hj'
      have E2 := Lib.hid (show R = true by rw [HR.out, decide_eq_true_iff]; have := HGO.out; rwa [List.take_length, HLEN.out, List.take_length] at this)
      clear hlt
      go_wp2_with fail
      go_ret
      exact ⟨ret_bool E2.out.symm, HB.out⟩
end Go.Proofs.YtbiadennhnokhaaGreatDoor
