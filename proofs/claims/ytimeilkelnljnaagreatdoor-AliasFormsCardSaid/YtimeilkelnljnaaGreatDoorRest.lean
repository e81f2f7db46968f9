import Derived.Test.YtimeilkelnljnaaGreatDoorFit
import Derived.Test.YtimeilkelnljnaaGreatDoorRefA
import Derived.Test.YtimeilkelnljnaaGreatDoorRefK
import Derived.Maps.AppendAt
namespace Go.Proofs.YtimeilkelnljnaaGreatDoor
open Go.RowKit

/-! Few, Same, Signals, Ints of the references -/
def fewGo (c : Int) : Int → List Sg → Bool
  | _, [] => true
  | a, x :: L => if c < a + x.2.2.length then false else if few x.2.2 c = false then false else fewGo c (a + x.2.2.length) L
def few29 (L : List Sg) (n c : Int) : Bool := fewGo c 0 L && decide ((L.length : Int) ≤ n)
theorem fewGo_all {c : Int} : ∀ {L : List Sg} {a : Int}, fewGo c a L = true → ∀ x ∈ L, few x.2.2 c = true
  | [], _, _, x, h => by cases h
  | y :: L, a, h, x, hx => by
    unfold fewGo at h
    split at h
    · cases h
    · split at h
      · cases h
      · rename_i h1
        rcases List.mem_cons.1 hx with rfl | hx
        · simpa using h1
        · exact fewGo_all h x hx
theorem few29_fit {L : List (Sg × Value)} {n : Int} (h : few29 (L.map Prod.fst) n 80 = true) (hn : n ≤ 8) : FitS L ∧ (L.length : Int) ≤ n ∧ ∀ x ∈ L, x.1.2.2.length ≤ 80 := by
  unfold few29 at h
  rw [Bool.and_eq_true, decide_eq_true_iff, List.length_map] at h
  obtain ⟨h1, h2⟩ := h
  have ha : ∀ x ∈ L, few x.1.2.2 80 = true := fun x hx => fewGo_all h1 x.1 (List.mem_map_of_mem hx)
  have hb : ∀ x ∈ L, Fit x.1.2.2 ∧ x.1.2.2.length ≤ 80 := fun x hx => by
    have := ha x hx
    unfold few fewV at this
    rw [Bool.and_eq_true, decide_eq_true_iff, List.all_eq_true] at this
    refine ⟨⟨by omega, fun c hc => ?_⟩, by omega⟩
    have := this.1 c hc
    rw [decide_eq_true_iff] at this
    omega
  exact ⟨⟨by omega, fun x hx => (hb x hx).1⟩, h2, fun x hx => (hb x hx).2⟩

set_option maxHeartbeats 800000 in
set_option maxRecDepth 100000 in
theorem ref_Few29 (v : Value) (L : List (Sg × Value)) (n c : Int) (w : World) (hs : Sigs w v L) (hc0 : 0 ≤ c) (hc1 : c ≤ 1000000) :
    Calls Tryz.prog 9 #[v, .int .i64 n, .int .i64 c] w fun e w' => e = .returned (.bool (few29 (L.map Prod.fst) n c)) ∧ w' = w := by
  obtain ⟨a, cap, rfl, hc, hm⟩ := hs.s.shape
  unfold maxLen at hm
  have HS := Lib.hid hs
  clear hs
  go_enter Tryz.func9, Tryz.ntmps9
  go_wp2_with fail
  go_loopw [7, 8] (fun s_ i wr => ∃ (j : Nat) (s : Int), j ≤ L.length ∧ i = .int .i64 j ∧ s_ = .int .i64 s ∧ 0 ≤ s ∧ s ≤ c ∧ fewGo c s ((L.drop j).map Prod.fst) = fewGo c 0 (L.map Prod.fst) ∧ wr = w)
    (fun _ i _ => L.length - (intOf i).toNat)
  case atStart => exact ⟨0, 0, Nat.zero_le _, rfl, rfl, Int.le_refl _, hc0, rfl, rfl⟩
  case round =>
    obtain ⟨j, s, hj, rfl, rfl, hs0, hs1, hgo, rfl⟩ := hrel
    have HGO := Lib.hid hgo
    clear hgo
    by_cases hlt : j < L.length
    · obtain ⟨b, o, rfl, y0, y1, y2, hd⟩ := HS.out.at hlt
      have HGO2 := Lib.hid (show fewGo c s (L[j].1 :: (L.drop (j + 1)).map Prod.fst) = fewGo c 0 (L.map Prod.fst) by
        rw [← HGO.out, List.drop_eq_getElem_cons hlt]; rfl)
      generalize L[j] = x at y0 y1 y2 hd HGO2
      obtain ⟨⟨xk, xn, xl⟩, xv⟩ := x
      dsimp only at y0 y1 y2 hd HGO2
      obtain ⟨xa, xc, rfl, hcx, hmx⟩ := hd.shape
      unfold maxLen at hmx
      have HD := Lib.hid hd
      have hw1 : IntKind.i64.wrap ((j : Int) + 1) = (j : Int) + 1 := IntWalk.i64_in _ (by omega)
      clear hd
      by_cases h1 : c < s + xl.length
      · have HR := Lib.hid (show false = few29 (L.map Prod.fst) n c by unfold few29; rw [← HGO2.out]; unfold fewGo; rw [if_pos h1]; rfl)
        by_cases hov : s + (xl.length : Int) ≤ 9223372036854775807
        · have hw : IntKind.i64.wrap (s + (xl.length : Int)) = s + xl.length := IntWalk.i64_in _ (by omega)
          have hb1 : decide (c < s + (xl.length : Int)) = true := by rw [decide_eq_true_iff]; exact h1
          clear h1 hov
          go_wp2_with fail
          go_ret
          exact ⟨ret_bool HR.out, rfl⟩
        · have hw : IntKind.i64.wrap (s + (xl.length : Int)) = s + xl.length - 18446744073709551616 := by rw [IntKind.wrap_i64]; omega
          have hb1 : decide (c < s + (xl.length : Int) - 18446744073709551616) = false := by rw [decide_eq_false_iff_not]; omega
          have hfw : few xl c = false := by
            unfold few
            rw [decide_eq_false (show ¬ (xl.length : Int) ≤ c by omega), Bool.and_false]
          clear h1 hov
          go_wp2_with fail
          refine (ref_Few _ xl c _ HD.out).mono ?_
          rw [hfw]
          rintro e w2 ⟨rfl, rfl⟩
          go_wp2_with fail
          go_ret
          exact ⟨ret_bool HR.out, rfl⟩
      · have hw : IntKind.i64.wrap (s + (xl.length : Int)) = s + xl.length := IntWalk.i64_in _ (by omega)
        have hb1 : decide (c < s + (xl.length : Int)) = false := by rw [decide_eq_false_iff_not]; exact h1
        have HGO3 := Lib.hid (show (if few xl c = false then false else fewGo c (s + xl.length) ((L.drop (j + 1)).map Prod.fst)) = _ from ((show fewGo c s ((xk, xn, xl) :: (L.drop (j + 1)).map Prod.fst) = _ by rw [fewGo]; exact if_neg h1).symm.trans HGO2.out))
        have hs2 : s + xl.length ≤ c := by omega
        clear h1
        go_wp2_with fail
        refine (ref_Few _ xl c _ HD.out).mono ?_
        rintro e w2 ⟨rfl, rfl⟩
        cases hfw : few xl c
        · have HR := Lib.hid (show false = few29 (L.map Prod.fst) n c by unfold few29; rw [← HGO3.out, if_pos hfw]; rfl)
          clear hfw
          go_wp2_with fail
          go_ret
          exact ⟨ret_bool HR.out, rfl⟩
        · have HGO4 := Lib.hid (show fewGo c (s + xl.length) ((L.drop (j + 1)).map Prod.fst) = _ from (if_neg (by rw [hfw]; simp)).symm.trans HGO3.out)
          clear hfw
          go_wp2_with fail
          go_roundw
          case rel => exact ⟨j + 1, s + xl.length, by omega, by go_num, rfl, by omega, hs2, HGO4.out, trivial⟩
          case measure => simp [intOf]; omega
    · obtain rfl : j = L.length := by omega
      have HR := Lib.hid (show decide ((L.length : Int) ≤ n) = few29 (L.map Prod.fst) n c by
        unfold few29
        rw [← HGO.out, List.drop_length, List.length_map]
        simp [fewGo])
      go_wp2_with fail
      go_ret
      exact ⟨ret_bool HR.out, rfl⟩

theorem dv_at {w : World} {a : Option Addr} {cap : Nat} {l : List Dv} (h : SlR w (.slice a l.length cap) l.length (dvs l)) {j : Nat} (hj : j < l.length) :
    ∃ b o, a = some ⟨b, o, none⟩ ∧ w.cell? ⟨b, o + j * 3, none⟩ = some (.int .i64 l[j].1) ∧ w.cell? ⟨b, o + j * 3 + 1, none⟩ = some (.int .i64 l[j].2.1) ∧ w.cell? ⟨b, o + j * 3 + 2, none⟩ = some (.bool l[j].2.2) := by
  obtain ⟨b, o, cap', hv, -, -, hcell⟩ := h.at (by omega)
  injection hv with e1 _ _
  obtain ⟨h0, h1, h2⟩ := dvs_at l j hj
  refine ⟨b, o, e1, ?_, ?_, ?_⟩
  · have := hcell _ _ h0; rwa [Nat.mul_comm 3 j] at this
  · have := hcell _ _ h1; rwa [Nat.mul_comm 3 j, ← Nat.add_assoc] at this
  · have := hcell _ _ h2; rwa [Nat.mul_comm 3 j, ← Nat.add_assoc] at this

set_option maxHeartbeats 800000 in
set_option maxRecDepth 100000 in
theorem ref_Ints (v u : Value) (l m : List Nat) (w : World) (hs : SlR w v l.length (nats l)) (ht : SlR w u m.length (nats m)) :
    Calls Tryz.prog 12 #[v, u] w fun e w' => e = .returned (.bool (decide (l = m))) ∧ Below w.heap.size w w' := by
  obtain ⟨a, cap, rfl, hc, hm⟩ := hs.shape
  obtain ⟨a2, cap2, rfl, hc2, hm2⟩ := ht.shape
  unfold maxLen at hm hm2
  have HS := Lib.hid hs
  have HT := Lib.hid ht
  clear hs ht
  by_cases hne : l.length ≠ m.length
  · have E := Lib.hid (show decide (l = m) = false by rw [decide_eq_false_iff_not]; intro h; exact hne (by rw [h]))
    have hb : ((l.length : Int) != (m.length : Int)) = true := by rw [bne_iff_ne]; omega
    clear hne
    go_enter Tryz.func12, Tryz.ntmps12
    go_wp2_with fail
    go_ret
    exact ⟨ret_bool E.out.symm, Below.refl _ _⟩
  have hlen : l.length = m.length := by omega
  have hb : ((l.length : Int) != (m.length : Int)) = false := by rw [hlen]; simp
  clear hne
  go_enter Tryz.func12, Tryz.ntmps12
  go_wp2_with fail
  go_loopw [5] (fun i wr => ∃ (j : Nat), j ≤ l.length ∧ i = .int .i64 j ∧ l.take j = m.take j ∧ Below w.heap.size w wr)
    (fun i _ => l.length - (intOf i).toNat)
  case atStart => exact ⟨0, Nat.zero_le _, rfl, rfl, Below.refl _ _⟩
  case round =>
    obtain ⟨j, hj, rfl, hgo, hbw⟩ := hrel
    have HGO := Lib.hid hgo
    have HB := Lib.hid hbw
    clear hgo hbw
    by_cases hlt : j < l.length
    · have hlt2 : j < m.length := by omega
      obtain ⟨b, o, c', hv, -, -, hcell⟩ := (HS.out.below HB.out).at (by omega)
      injection hv with e1 e2 e3
      subst e1
      clear e2 e3
      obtain ⟨b2, o2, c2', hv2, -, -, hcell2⟩ := (HT.out.below HB.out).at (by omega)
      injection hv2 with e1 e2 e3
      subst e1
      clear e2 e3
      have d0 := hcell j (.int .i64 (l[j] : Int)) (by simp [nats, hlt])
      have g0 := hcell2 j (.int .i64 (m[j] : Int)) (by simp [nats, hlt2])
      clear hcell hcell2
      have hw : IntKind.i64.wrap ((j : Int) + 1) = (j : Int) + 1 := IntWalk.i64_in _ (by omega)
      by_cases he : l[j] = m[j]
      · have HGO2 : Hid (l.take (j + 1) = m.take (j + 1)) := Lib.hid (by rw [List.take_succ_eq_append_getElem hlt, List.take_succ_eq_append_getElem hlt2, HGO.out, he])
        rw [← he] at g0
        generalize l[j] = c at d0 g0
        clear he
        go_wp2_with fail
        go_quiet (fail)
        go_wp2_with fail
        go_roundw
        case rel => exact ⟨j + 1, by omega, by go_num, HGO2.out, below_drewN HB.out _⟩
        case measure => simp [intOf]; omega
      · have E2 := Lib.hid (show decide (l = m) = false by rw [decide_eq_false_iff_not]; intro h; subst h; exact he rfl)
        have htb : ((l[j] : Int) != (m[j] : Int)) = true := by rw [bne_iff_ne]; omega
        generalize l[j] = c at d0 htb
        generalize m[j] = c' at g0 htb
        clear he
        go_wp2_with fail
        go_quiet (fail)
        go_wp2_with fail
        go_ret
        exact ⟨ret_bool E2.out.symm, below_drewN HB.out _⟩
    · obtain rfl : j = l.length := by omega
      have E2 := Lib.hid (show decide (l = m) = true by rw [decide_eq_true_iff]; have := HGO.out; rwa [List.take_length, hlen, List.take_length] at this)
      go_wp2_with fail
      go_ret
      exact ⟨ret_bool E2.out.symm, HB.out⟩

set_option maxHeartbeats 800000 in
set_option maxRecDepth 100000 in
theorem ref_Same (v u : Value) (l m : List Dv) (w : World) (hs : SlR w v l.length (dvs l)) (ht : SlR w u m.length (dvs m)) :
    Calls Tryz.prog 13 #[v, u] w fun e w' => e = .returned (.bool (decide (l = m))) ∧ Below w.heap.size w w' := by
  obtain ⟨a, cap, rfl, hc, hm⟩ := hs.shape
  obtain ⟨a2, cap2, rfl, hc2, hm2⟩ := ht.shape
  unfold maxLen at hm hm2
  have HS := Lib.hid hs
  have HT := Lib.hid ht
  clear hs ht
  by_cases hne : l.length ≠ m.length
  · have E := Lib.hid (show decide (l = m) = false by rw [decide_eq_false_iff_not]; intro h; exact hne (by rw [h]))
    have hb : ((l.length : Int) != (m.length : Int)) = true := by rw [bne_iff_ne]; omega
    clear hne
    go_enter Tryz.func13, Tryz.ntmps13
    go_wp2_with fail
    go_ret
    exact ⟨ret_bool E.out.symm, Below.refl _ _⟩
  have hlen : l.length = m.length := by omega
  have hb : ((l.length : Int) != (m.length : Int)) = false := by rw [hlen]; simp
  clear hne
  go_enter Tryz.func13, Tryz.ntmps13
  go_wp2_with fail
  go_loopw [5] (fun i wr => ∃ (j : Nat), j ≤ l.length ∧ i = .int .i64 j ∧ l.take j = m.take j ∧ Below w.heap.size w wr)
    (fun i _ => l.length - (intOf i).toNat)
  case atStart => exact ⟨0, Nat.zero_le _, rfl, rfl, Below.refl _ _⟩
  case round =>
    obtain ⟨j, hj, rfl, hgo, hbw⟩ := hrel
    have HGO := Lib.hid hgo
    have HB := Lib.hid hbw
    clear hgo hbw
    by_cases hlt : j < l.length
    · have hlt2 : j < m.length := by omega
      obtain ⟨b, o, rfl, d0, d1, d2⟩ := dv_at (HS.out.below HB.out) hlt
      obtain ⟨b2, o2, rfl, g0, g1, g2⟩ := dv_at (HT.out.below HB.out) hlt2
      have hw : IntKind.i64.wrap ((j : Int) + 1) = (j : Int) + 1 := IntWalk.i64_in _ (by omega)
      by_cases he : l[j] = m[j]
      · have HGO2 : Hid (l.take (j + 1) = m.take (j + 1)) := Lib.hid (by rw [List.take_succ_eq_append_getElem hlt, List.take_succ_eq_append_getElem hlt2, HGO.out, he])
        rw [← he] at g0 g1 g2
        generalize l[j] = c at d0 d1 d2 g0 g1 g2
        clear he
        obtain ⟨x, y, z⟩ := c
        dsimp only at d0 d1 d2 g0 g1 g2
        go_wp2_with fail
        go_quiet (fail)
        go_wp2_with fail
        go_roundw
        case rel => exact ⟨j + 1, by omega, by go_num, HGO2.out, below_drewN HB.out _⟩
        case measure => simp [intOf]; omega
      · have E2 := Lib.hid (show decide (l = m) = false by rw [decide_eq_false_iff_not]; intro h; subst h; exact he rfl)
        generalize l[j] = c at d0 d1 d2 he
        generalize m[j] = c' at g0 g1 g2 he
        obtain ⟨x, y, z⟩ := c
        obtain ⟨x', y', z'⟩ := c'
        dsimp only at d0 d1 d2 g0 g1 g2
        by_cases hx : x = x'
        · subst hx
          by_cases hy : y = y'
          · subst hy
            have hz : (z == z') = false := by rw [beq_eq_false_iff_ne]; exact fun h => he (by rw [h])
            clear he
            go_wp2_with fail
            go_quiet (fail)
            go_wp2_with fail
            go_ret
            exact ⟨ret_bool E2.out.symm, below_drewN HB.out _⟩
          · have hyb : (y == y') = false := by rw [beq_eq_false_iff_ne]; exact hy
            clear he
            go_wp2_with fail
            go_quiet (fail)
            go_wp2_with fail
            go_ret
            exact ⟨ret_bool E2.out.symm, below_drewN HB.out _⟩
        · have hxb : (x == x') = false := by rw [beq_eq_false_iff_ne]; exact hx
          clear he
          go_wp2_with fail
          go_quiet (fail)
          go_wp2_with fail
          go_ret
          exact ⟨ret_bool E2.out.symm, below_drewN HB.out _⟩
    · obtain rfl : j = l.length := by omega
      have E2 := Lib.hid (show decide (l = m) = true by rw [decide_eq_true_iff]; have := HGO.out; rwa [List.take_length, hlen, List.take_length] at this)
      go_wp2_with fail
      go_ret
      exact ⟨ret_bool E2.out.symm, HB.out⟩

set_option maxHeartbeats 800000 in
set_option maxRecDepth 100000 in
theorem ref_Signals (v u : Value) (L M : List (Sg × Value)) (w : World) (hs : Sigs w v L) (ht : Sigs w u M) :
    Calls Tryz.prog 20 #[v, u] w fun e w' => e = .returned (.bool (decide (L.map Prod.fst = M.map Prod.fst))) ∧ Below w.heap.size w w' := by
  obtain ⟨a, cap, rfl, hc, hm⟩ := hs.s.shape
  obtain ⟨a2, cap2, rfl, hc2, hm2⟩ := ht.s.shape
  unfold maxLen at hm hm2
  have HS := Lib.hid hs
  have HT := Lib.hid ht
  clear hs ht
  by_cases hne : L.length ≠ M.length
  · have E := Lib.hid (show decide (L.map Prod.fst = M.map Prod.fst) = false by rw [decide_eq_false_iff_not]; intro h; exact hne (by have := congrArg List.length h; simpa using this))
    have hb : ((L.length : Int) != (M.length : Int)) = true := by rw [bne_iff_ne]; omega
    clear hne
    go_enter Tryz.func20, Tryz.ntmps20
    go_wp2_with fail
    go_ret
    exact ⟨ret_bool E.out.symm, Below.refl _ _⟩
  have HLEN := Lib.hid (show L.length = M.length by omega)
  have hb : ((L.length : Int) != (M.length : Int)) = false := by rw [HLEN.out]; simp
  clear hne
  go_enter Tryz.func20, Tryz.ntmps20
  go_wp2_with fail
  go_loopw [5] (fun i wr => ∃ (j : Nat), j ≤ L.length ∧ i = .int .i64 j ∧ (L.take j).map Prod.fst = (M.take j).map Prod.fst ∧ Below w.heap.size w wr)
    (fun i _ => L.length - (intOf i).toNat)
  case atStart => exact ⟨0, Nat.zero_le _, rfl, rfl, Below.refl _ _⟩
  case round =>
    obtain ⟨j, hj, rfl, hgo, hbw⟩ := hrel
    have HGO := Lib.hid hgo
    have HB := Lib.hid hbw
    clear hgo hbw
    by_cases hlt : j < L.length
    · have hlt2 : j < M.length := by have := HLEN.out; omega
      obtain ⟨b, o, rfl, d0, d1, d2, hd⟩ := (HS.out.below HB.out).at hlt
      obtain ⟨b2, o2, rfl, g0, g1, g2, hg⟩ := (HT.out.below HB.out).at hlt2
      have hw : IntKind.i64.wrap ((j : Int) + 1) = (j : Int) + 1 := IntWalk.i64_in _ (by omega)
      have HE := Lib.hid (show L[j].1 = M[j].1 → (L.take (j + 1)).map Prod.fst = (M.take (j + 1)).map Prod.fst from fun h => by
        rw [List.take_succ_eq_append_getElem hlt, List.take_succ_eq_append_getElem hlt2, List.map_append, List.map_append, HGO.out]; simp [h])
      have HN := Lib.hid (show L[j].1 ≠ M[j].1 → decide (L.map Prod.fst = M.map Prod.fst) = false from fun h => by
        rw [decide_eq_false_iff_not]
        intro h2
        have h3 := congrArg (fun l => l[j]?) h2
        simp [hlt, hlt2] at h3
        exact h h3)
      generalize L[j] = x at d0 d1 d2 hd HE HN
      generalize M[j] = y at g0 g1 g2 hg HE HN
      obtain ⟨⟨xk, xn, xl⟩, xv⟩ := x
      obtain ⟨⟨yk, yn, yl⟩, yv⟩ := y
      dsimp only at d0 d1 d2 hd g0 g1 g2 hg HE HN
      obtain ⟨xa, xc, rfl, -, -⟩ := hd.shape
      obtain ⟨ya, yc, rfl, -, -⟩ := hg.shape
      have HQ := Lib.hid (fun W hW => ref_Equal xk xn yk yn (.slice xa xl.length xc) (.slice ya yl.length yc) xl yl W (hd.below hW) (hg.below hW))
      clear hd hg
      go_upto_region 6 with fail
      go_region_held3 (fun w' => w'.cell? ⟨b, o + j * 3, none⟩ = some (.int .i64 xk) ∧ w'.cell? ⟨b, o + j * 3 + 1, none⟩ = some (.int .i64 xn) ∧ w'.cell? ⟨b, o + j * 3 + 2, none⟩ = some (.slice xa xl.length xc) ∧
          w'.cell? ⟨b2, o2 + j * 3, none⟩ = some (.int .i64 yk) ∧ w'.cell? ⟨b2, o2 + j * 3 + 1, none⟩ = some (.int .i64 yn) ∧ w'.cell? ⟨b2, o2 + j * 3 + 2, none⟩ = some (.slice ya yl.length yc))
        (first | exact ⟨d0, d1, d2, g0, g1, g2⟩ | exact ⟨(hb2.cell (cell_lt d0)).trans d0, (hb2.cell (cell_lt d1)).trans d1, (hb2.cell (cell_lt d2)).trans d2, (hb2.cell (cell_lt g0)).trans g0, (hb2.cell (cell_lt g1)).trans g1, (hb2.cell (cell_lt g2)).trans g2⟩ | go_keep)
        (first
          | (go_at_call 60
             (with_reducible refine (HQ.out _ ?_).mono ?_)
             · exact below_drewN (Below.refl _ _) _
             rintro e w2 ⟨rfl, hb2'⟩
             have hb2 := below_undrew hb2'
             clear hb2'))
      rename_i hh
      clear hh
      have HB2 := Lib.hid (ext_trans HB.out hb2)
      clear hb2 d0 d1 d2 g0 g1 g2
      cases hq : sEq xk xn xl yk yn yl
      · have HR := Lib.hid (show false = decide (L.map Prod.fst = M.map Prod.fst) from (HN.out (fun h => by
          injection h with h1 h2
          injection h2 with h2 h3
          subst h1 h2 h3
          unfold sEq sameC at hq
          simp at hq)).symm)
        clear hq
        go_wp2_with fail
        go_ret
        exact ⟨ret_bool HR.out, HB2.out⟩
      · have HGO2 := Lib.hid (HE.out (by
          unfold sEq sameC at hq
          simp at hq
          obtain ⟨h1, h2, h3⟩ := hq
          rw [h1, h2, h3]))
        clear hq
        go_wp2_with fail
        go_roundw
        case rel => exact ⟨j + 1, by omega, by go_num, HGO2.out, HB2.out⟩
        case measure => simp [intOf]; omega
    · obtain rfl : j = L.length := by omega
      have E2 := Lib.hid (show decide (L.map Prod.fst = M.map Prod.fst) = true by rw [decide_eq_true_iff]; have := HGO.out; rwa [List.take_length, HLEN.out, List.take_length] at this)
      go_wp2_with fail
      go_ret
      exact ⟨ret_bool E2.out.symm, HB.out⟩
end Go.Proofs.YtimeilkelnljnaaGreatDoor

namespace Go.Proofs.YtimeilkelnljnaaGreatDoor
open Go.RowKit

/-! alias.Valid, alias.Restore -/
theorem sg_info : (Tryz.prog.info? 37).map (fun i => (i.zero, i.size, i.bytes)) = some (some (.agg #[.int .i64 0, .int .i64 0, .slice none 0 0]), 3, 40) := by kernel_rfl
/-- the rest of the derivations is valid -/
def fitsGo (l st : List Sg) (d : List Dv) (j : Nat) : Bool := ((l.zip d).drop j).all fun p => fitsR p.1 st p.2
theorem fits_step {l st : List Sg} {d : List Dv} {j : Nat} (h1 : j < l.length) (h2 : j < d.length) : fitsGo l st d j = (fitsR l[j] st d[j] && fitsGo l st d (j + 1)) := by
  have h : j < (l.zip d).length := by rw [List.length_zip]; omega
  unfold fitsGo
  rw [List.drop_eq_getElem_cons h, List.all_cons, List.getElem_zip]

set_option maxHeartbeats 1600000 in
set_option maxRecDepth 100000 in
theorem al_Valid (v v2 v3 : Value) (L S : List (Sg × Value)) (D : List Dv) (w : World) (hs : Sigs w v L) (ht : Sigs w v2 S) (hd : SlR w v3 D.length (dvs D)) :
    Calls Tryz.prog 18 #[v, v2, v3] w fun e w' => e = .returned (.bool (validR (L.map Prod.fst) (S.map Prod.fst) D)) ∧ Below w.heap.size w w' := by
  obtain ⟨a, cap, rfl, hc, hm⟩ := hs.s.shape
  obtain ⟨a2, cap2, rfl, hc2, hm2⟩ := ht.s.shape
  obtain ⟨a3, cap3, rfl, hc3, hm3⟩ := hd.shape
  have HT1 := Lib.hid (fun W hW => al_allT _ L W (hs.below hW) (fun x hx W' hW' => al_typed x.1 x.2 W' (by obtain ⟨a, c, e, -, -⟩ := (hs.m x hx).shape; exact ⟨_, _, _, e⟩)))
  have HT2 := Lib.hid (fun W hW => al_allT _ S W (ht.below hW) (fun x hx W' hW' => al_typed x.1 x.2 W' (by obtain ⟨a, c, e, -, -⟩ := (ht.m x hx).shape; exact ⟨_, _, _, e⟩)))
  have HS := Lib.hid hs
  have HT := Lib.hid ht
  have HD := Lib.hid hd
  have HR := Lib.hid (show validR (L.map Prod.fst) (S.map Prod.fst) D = (decide (L.length ≤ 64) && decide (S.length ≤ 64) && decide (D.length = L.length) && (L.all fun x => tyS x.1) && (S.all fun x => tyS x.1) && fitsGo (L.map Prod.fst) (S.map Prod.fst) D 0) by
    unfold validR fitsGo
    rw [List.length_map, List.length_map, List.all_map, List.all_map]; rfl)
  clear hs ht hd hm hm2 hm3
  by_cases h1 : ¬ (L.length ≤ 64 ∧ S.length ≤ 64 ∧ D.length = L.length)
  · have HR2 := Lib.hid (show false = validR (L.map Prod.fst) (S.map Prod.fst) D by
      rw [HR.out]
      by_cases a1 : L.length ≤ 64
      · by_cases a2 : S.length ≤ 64
        · by_cases a3 : D.length = L.length
          · exact absurd ⟨a1, a2, a3⟩ h1
          · simp [a3]
        · simp [a2]
      · simp [a1])
    by_cases a1 : L.length ≤ 64
    · have b1 : decide ((L.length : Int) > 64) = false := by rw [decide_eq_false_iff_not]; omega
      by_cases a2 : S.length ≤ 64
      · have b2 : decide ((S.length : Int) > 64) = false := by rw [decide_eq_false_iff_not]; omega
        have b3 : ((D.length : Int) != (L.length : Int)) = true := by rw [bne_iff_ne]; omega
        clear h1 a1 a2
        go_enter Tryz.func18, Tryz.ntmps18
        go_wp2_with fail
        go_ret
        exact ⟨ret_bool HR2.out, Below.refl _ _⟩
      · have b2 : decide ((S.length : Int) > 64) = true := by rw [decide_eq_true_iff]; omega
        clear h1 a1 a2
        go_enter Tryz.func18, Tryz.ntmps18
        go_wp2_with fail
        go_ret
        exact ⟨ret_bool HR2.out, Below.refl _ _⟩
    · have b1 : decide ((L.length : Int) > 64) = true := by rw [decide_eq_true_iff]; omega
      clear h1 a1
      go_enter Tryz.func18, Tryz.ntmps18
      go_wp2_with fail
      go_ret
      exact ⟨ret_bool HR2.out, Below.refl _ _⟩
  obtain ⟨hl, hsl, hdl⟩ := Classical.not_not.1 h1
  have b1 : decide ((L.length : Int) > 64) = false := by rw [decide_eq_false_iff_not]; omega
  have b2 : decide ((S.length : Int) > 64) = false := by rw [decide_eq_false_iff_not]; omega
  have b3 : ((D.length : Int) != (L.length : Int)) = false := by rw [hdl]; simp
  clear h1
  go_enter Tryz.func18, Tryz.ntmps18
  go_wp2_with fail
  refine (HT1.out _ (Below.refl _ _)).mono ?_
  rintro e w1 ⟨rfl, hb1⟩
  have HB1 := Lib.hid hb1
  clear hb1
  cases hA : L.all fun x => tyS x.1
  · have HR2 := Lib.hid (show false = validR (L.map Prod.fst) (S.map Prod.fst) D by rw [HR.out, hA]; simp)
    clear hA
    go_wp2_with fail
    go_ret
    exact ⟨ret_bool HR2.out, HB1.out⟩
  have HA := Lib.hid hA
  clear hA
  go_wp2_with fail
  refine (HT2.out _ HB1.out).mono ?_
  rintro e w2 ⟨rfl, hb2⟩
  have HB2 := Lib.hid (ext_trans HB1.out hb2)
  clear hb2 HB1
  cases hB : S.all fun x => tyS x.1
  · have HR2 := Lib.hid (show false = validR (L.map Prod.fst) (S.map Prod.fst) D by rw [HR.out, hB]; simp)
    clear hB
    go_wp2_with fail
    go_ret
    exact ⟨ret_bool HR2.out, HB2.out⟩
  have HBB := Lib.hid hB
  have HR3 := Lib.hid (show fitsGo (L.map Prod.fst) (S.map Prod.fst) D 0 = validR (L.map Prod.fst) (S.map Prod.fst) D by rw [HR.out, HA.out, hB]; simp [hl, hsl, hdl])
  clear hB
  go_wp2_with fail
  go_loopw [36] (fun i wr => ∃ (j : Nat), j ≤ L.length ∧ i = .int .i64 j ∧ fitsGo (L.map Prod.fst) (S.map Prod.fst) D j = validR (L.map Prod.fst) (S.map Prod.fst) D ∧ Below w.heap.size w wr) (fun i _ => L.length - (intOf i).toNat)
  case atStart => exact ⟨0, Nat.zero_le _, rfl, HR3.out, HB2.out⟩
  case round =>
    obtain ⟨j, hj, rfl, hgo, hb⟩ := hrel
    have HGO := Lib.hid hgo
    have HB := Lib.hid hb
    clear hgo hb HB2 HR3
    by_cases hlt : j < L.length
    · have hlt2 : j < D.length := by omega
      obtain ⟨b, o, rfl, y0, y1, y2, hy⟩ := (HS.out.below HB.out).at hlt
      obtain ⟨b3, o3, rfl, z0, z1, z2⟩ := dv_at (HD.out.below HB.out) hlt2
      have HGO2 := Lib.hid (show (fitsR L[j].1 (S.map Prod.fst) D[j] && fitsGo (L.map Prod.fst) (S.map Prod.fst) D (j + 1)) = validR (L.map Prod.fst) (S.map Prod.fst) D by
        rw [← HGO.out, fits_step (by simpa using hlt) hlt2]; simp)
      have hty : tyS L[j].1 = true := List.all_eq_true.1 HA.out _ (List.getElem_mem hlt)
      generalize L[j] = x at y0 y1 y2 hy HGO2 hty
      generalize D[j] = d at z0 z1 z2 HGO2
      obtain ⟨⟨xk, xn, xl⟩, xv⟩ := x
      obtain ⟨do_, df, di⟩ := d
      dsimp only at y0 y1 y2 hy HGO2 z0 z1 z2
      obtain ⟨xa, xc, rfl, -, -⟩ := hy.shape
      have HFT := Lib.hid (fun W hW => al_fits (xk, xn, xl) (.slice xa xl.length xc) (.slice a2 S.length cap2) S (do_, df, di) W ⟨_, _, _, rfl⟩ (HT.out.below hW) (fun y hy => ty_width (List.all_eq_true.1 HBB.out y hy)) (ty_width hty))
      have hz0 := cell_lt z0
      have hbx := HB.out.alloc HB.out.size (.cells #[.int .i64 xk, .int .i64 xn, .slice xa xl.length xc] 37)
      have s0 := (OwnRow.fresh wr #[.int .i64 xk, .int .i64 xn, .slice xa xl.length xc] 37).cell (j := 0) rfl
      have s1 := (OwnRow.fresh wr #[.int .i64 xk, .int .i64 xn, .slice xa xl.length xc] 37).cell (j := 1) rfl
      have s2 := (OwnRow.fresh wr #[.int .i64 xk, .int .i64 xn, .slice xa xl.length xc] 37).cell (j := 2) rfl
      have t0 := cell_alloc z0 (.cells #[.int .i64 xk, .int .i64 xn, .slice xa xl.length xc] 37)
      have t1 := cell_alloc z1 (.cells #[.int .i64 xk, .int .i64 xn, .slice xa xl.length xc] 37)
      have t2 := cell_alloc z2 (.cells #[.int .i64 xk, .int .i64 xn, .slice xa xl.length xc] 37)
      clear hy hty
      go_upto_region 6 with fail
      generalize wr.alloc (.cells #[.int .i64 xk, .int .i64 xn, .slice xa xl.length xc] 37) = w5 at hbx s0 s1 s2 t0 t1 t2 ⊢
      generalize wr.heap.size = Bx at s0 s1 s2 ⊢
      have HBX := Lib.hid hbx
      clear z0 z1 z2 y0 y1 y2 hbx
      go_region_held3 (fun w' => w'.cell? ⟨Bx, 0, none⟩ = some (.int .i64 xk) ∧ w'.cell? ⟨Bx, 1, none⟩ = some (.int .i64 xn) ∧ w'.cell? ⟨Bx, 2, none⟩ = some (.slice xa xl.length xc) ∧
          w'.cell? ⟨b3, o3 + j * 3, none⟩ = some (.int .i64 do_) ∧ w'.cell? ⟨b3, o3 + j * 3 + 1, none⟩ = some (.int .i64 df) ∧ w'.cell? ⟨b3, o3 + j * 3 + 2, none⟩ = some (.bool di))
        (first | exact ⟨s0, s1, s2, t0, t1, t2⟩ | exact ⟨(hb6.cell (cell_lt s0)).trans s0, (hb6.cell (cell_lt s1)).trans s1, (hb6.cell (cell_lt s2)).trans s2, (hb6.cell (cell_lt t0)).trans t0, (hb6.cell (cell_lt t1)).trans t1, (hb6.cell (cell_lt t2)).trans t2⟩ | go_keep)
        (first
          | (go_at_call 58
             (with_reducible refine (HFT.out _ ?_).mono ?_)
             · exact below_drewN HBX.out _
             rintro e w6 ⟨rfl, hb6'⟩
             have hb6 := below_undrew hb6'
             clear hb6'))
      rename_i hh
      clear hh
      have HB6 := Lib.hid (ext_trans HBX.out hb6)
      clear hb6 s0 s1 s2 t0 t1 t2
      cases hq : fitsR (xk, xn, xl) (S.map Prod.fst) (do_, df, di)
      · have HR4 := Lib.hid (show false = validR (L.map Prod.fst) (S.map Prod.fst) D by rw [← HGO2.out, hq]; rfl)
        clear hq
        go_wp2_with fail
        go_ret
        exact ⟨ret_bool HR4.out, HB6.out⟩
      · have HGO3 := Lib.hid (show fitsGo (L.map Prod.fst) (S.map Prod.fst) D (j + 1) = validR (L.map Prod.fst) (S.map Prod.fst) D by rw [← HGO2.out, hq, Bool.true_and])
        clear hq
        go_wp2_with fail
        go_roundw
        case rel => exact ⟨j + 1, by omega, by go_num, HGO3.out, HB6.out⟩
        case measure => simp [intOf]; omega
    · obtain rfl : j = L.length := by omega
      have HR4 := Lib.hid (show true = validR (L.map Prod.fst) (S.map Prod.fst) D by
        rw [← HGO.out]
        unfold fitsGo
        rw [List.drop_eq_nil_iff.2 (by rw [List.length_zip, List.length_map]; omega)]; rfl)
      go_wp2_with fail
      go_ret
      exact ⟨ret_bool HR4.out, HB.out⟩
theorem slice_fit (k n : Int) (l : List Ch) (f w : Int) : Fit (sliceR k n l f w).1.2.2 := by
  have h0 : Fit [] := ⟨by simp, by simp⟩
  unfold sliceR
  split
  · exact h0
  · rename_i h1
    split
    · exact h0
    · rename_i h2
      obtain rfl : k = 0 := Classical.not_not.1 h2
      have hv : sv 0 n l = true := by simpa using h1
      split
      · exact h0
      · rename_i h3
        have hc := (slR_zero (vv_vi (sv_iff.1 hv).1)).1 (Classical.not_not.1 h3)
        obtain ⟨p, e1, e2, -, -⟩ := slice_ok hv hc
        unfold sliceR at e1
        rw [if_neg h1, if_neg h2, if_neg h3] at e1
        rw [e1]
        exact sv_fit e2
theorem inv_fit (k n : Int) (l : List Ch) : Fit (invR k n l).1.2.2 := by
  have h0 : Fit [] := ⟨by simp, by simp⟩
  unfold invR
  split
  · exact h0
  · rename_i h1
    split
    · exact h0
    · rename_i h2
      obtain rfl : k = 0 := Classical.not_not.1 h2
      have hv : sv 0 n l = true := by simpa using h1
      obtain ⟨q, e1, e2, -, -⟩ := inv_ok hv
      unfold invR at e1
      rw [if_neg h1, if_neg h2] at e1
      rw [e1]
      exact sv_fit e2
theorem part_fit {st : Sg} (h : Fit st.2.2) (fr : Int) (inv : Bool) (width : Int) : Fit (partR st fr inv width).1.2.2 := by
  unfold partR
  split
  · exact h
  · split
    · exact inv_fit _ _ _
    · exact slice_fit _ _ _ _ _
theorem fits_range {s : Sg} {st : List Sg} {d : Dv} (h : fitsR s st d = true) (hn : d.1 ≠ -1) : 0 ≤ d.1 ∧ d.1 < st.length := by
  unfold fitsR at h
  split at h
  · cases h
  · omega

/-- rows of different element types lie in different blocks -/
theorem own_ne {w : World} {B B' e e' size size' n n' : Nat} {v v' : Value} {xs xs' : List Value} (h : w.ownsRow B e size v n xs) (h' : w.ownsRow B' e' size' v' n' xs') (hne : e ≠ e') : v.ownBlock = none ∨ v.ownBlock ≠ v'.ownBlock := by
  rcases h.2 with ⟨rfl, _⟩ | ⟨g, cap, cur, rfl, _, hgg, _⟩
  · exact .inl rfl
  · rcases h'.2 with ⟨rfl, _⟩ | ⟨g', cap', cur', rfl, _, hgg', _⟩
    · exact .inr (by simp [Value.ownBlock])
    · refine .inr fun he => ?_
      simp only [Value.ownBlock, Option.some.injEq] at he
      subst he
      rw [hgg] at hgg'
      simp only [Option.some.injEq, Obj.cells.injEq] at hgg'
      exact hne hgg'.2.1
/-- a list of signals of the call's own -/
structure SigOwn (B : Nat) (w : World) (v : Value) (M : List (Sg × Value)) : Prop where
  s : w.ownsRow B 37 3 v M.length (sgs M)
  m : ∀ x ∈ M, w.ownsRow B 75 2 x.2 x.1.2.2.length (chs x.1.2.2)
theorem SigOwn.sigs {B : Nat} {w : World} {v : Value} {M : List (Sg × Value)} (h : SigOwn B w v M) : Sigs w v M := ⟨SlR.of_own h.s, fun x hx => SlR.of_own (h.m x hx)⟩
theorem own_later {W W' : World} {B e size n : Nat} {v : Value} {xs : List Value} (h : W.ownsRow B e size v n xs) (hb : RowKit.Below W.heap.size W W') : W'.ownsRow B e size v n xs :=
  h.kept (row := none) ⟨hb.os, hb.tape, hb.output, hb.size, fun i hi _ => hb.block i hi⟩ (by cases v.ownBlock <;> simp)
theorem SigOwn.later {B : Nat} {w W : World} {v : Value} {M : List (Sg × Value)} (h : SigOwn B w v M) (hb : Below w.heap.size w W) : SigOwn B W v M := ⟨own_later h.s hb, fun x hx => own_later (h.m x hx) hb⟩
theorem SigOwn.snoc {B : Nat} {w W : World} {v v' : Value} {M : List (Sg × Value)} {s : Sg} {u : Value} (h : SigOwn B w v M) (hg : w.grownBy W v.ownBlock) (hu : w.ownsRow B 75 2 u s.2.2.length (chs s.2.2))
    (ho : W.ownsRow B 37 3 v' (M.length + 1) (sgs M ++ [.int .i64 s.1, .int .i64 s.2.1, u])) : SigOwn B W v' (M ++ [(s, u)]) := by
  refine ⟨by rw [sgs_app, List.length_append]; exact ho, fun x hx => ?_⟩
  have hx2 : w.ownsRow B 75 2 x.2 x.1.2.2.length (chs x.1.2.2) := by
    rcases List.mem_append.1 hx with hx | hx
    · exact h.m x hx
    · rw [List.mem_singleton] at hx
      subst hx
      exact hu
  exact hx2.kept hg (own_ne hx2 h.s (by decide))

set_option maxHeartbeats 3200000 in
set_option maxRecDepth 100000 in
theorem al_Restore (v v2 v3 : Value) (L S : List (Sg × Value)) (D : List Dv) (w : World) (hg : Glob w) (hs : Sigs w v L) (ht : Sigs w v2 S) (hd : SlR w v3 D.length (dvs D)) (hf : FitS S) :
    Calls Tryz.prog 16 #[v, v2, v3] w fun e w' => ∃ v' M, e = .returned (.tuple #[v', .int .i64 (restR (L.map Prod.fst) (S.map Prod.fst) D).2]) ∧ M.map Prod.fst = (restR (L.map Prod.fst) (S.map Prod.fst) D).1 ∧ SigOwn w.heap.size w' v' M ∧ Below w.heap.size w w' := by
  obtain ⟨i0, hi, iz0, iz1, iz2⟩ := info_parts (P := Tryz.prog) sg_info
  obtain ⟨a, cap, rfl, hc, hm⟩ := hs.s.shape
  obtain ⟨a2, cap2, rfl, hc2, hm2⟩ := ht.s.shape
  obtain ⟨a3, cap3, rfl, hc3, hm3⟩ := hd.shape
  have HAV := Lib.hid (al_allV _ S w ht (fun x hx W hW => sig_Valid x.1.1 x.1.2.1 x.2 x.1.2.2 W (hg.below hW) ((ht.m x hx).below hW) (hf.2 x hx)))
  have HVD := Lib.hid (fun W hW => al_Valid _ _ _ L S D W (hs.below hW) (ht.below hW) (hd.below hW))
  have HG := Lib.hid hg
  have HS := Lib.hid hs
  have HT := Lib.hid ht
  have HD := Lib.hid hd
  have HF := Lib.hid hf
  clear hg hs ht hd hf hm hm2 hm3
  go_enter Tryz.func16, Tryz.ntmps16
  go_wp2_with fail
  refine HAV.out.mono ?_
  rintro e w1 ⟨rfl, hb1⟩
  have HB1 := Lib.hid hb1
  clear hb1 HAV
  cases hA : S.all fun x => svS x.1
  · have HR := Lib.hid (show restR (L.map Prod.fst) (S.map Prod.fst) D = ([], 1) by
      unfold restR
      rw [if_neg (fun h => by rw [List.all_map, show S.all (svS ∘ Prod.fst) = S.all (fun x => svS x.1) from rfl, hA] at h; cases h.1)])
    clear hA
    go_wp2_with fail
    refine bodyPost_ret (v := .tuple #[.slice none 0 0, .int .i64 1]) (by simp [results, Tryz.results16, go_sem]) rfl ?_
    rw [HR.out]
    exact ⟨_, [], rfl, rfl, ⟨World.ownsRow_nil _ _ _ _, by simp⟩, HB1.out⟩
  have HA := Lib.hid hA
  clear hA
  go_wp2_with fail
  refine (HVD.out _ HB1.out).mono ?_
  rintro e w2 ⟨rfl, hb2⟩
  have HB2 := Lib.hid (ext_trans HB1.out hb2)
  clear hb2 HB1
  cases hV : validR (L.map Prod.fst) (S.map Prod.fst) D
  · have HR := Lib.hid (show restR (L.map Prod.fst) (S.map Prod.fst) D = ([], 1) by
      unfold restR
      rw [if_neg (fun h => by rw [hV] at h; cases h.2)])
    clear hV
    go_wp2_with fail
    refine bodyPost_ret (v := .tuple #[.slice none 0 0, .int .i64 1]) (by simp [results, Tryz.results16, go_sem]) rfl ?_
    rw [HR.out]
    exact ⟨_, [], rfl, rfl, ⟨World.ownsRow_nil _ _ _ _, by simp⟩, HB2.out⟩
  have HR := Lib.hid (show restR (L.map Prod.fst) (S.map Prod.fst) D = (((L.map Prod.fst).zip D).map (fun p => restE (S.map Prod.fst) p.1 p.2), 0) by
    unfold restR
    rw [if_pos ⟨by rw [List.all_map]; exact HA.out, hV⟩])
  obtain ⟨hl, hsl, hdl, hfi0⟩ := valid_parts hV
  have HFI := Lib.hid hfi0
  clear hV hfi0
  rw [List.length_map] at hl hsl hdl
  go_wp2_with fail
  go_loopw [8, 26] (fun o_ i wr => ∃ (j : Nat) (M : List (Sg × Value)), j ≤ L.length ∧ i = .int .i64 j ∧ M.length = j ∧ M.map Prod.fst = (((L.map Prod.fst).zip D).take j).map (fun p => restE (S.map Prod.fst) p.1 p.2) ∧ SigOwn w.heap.size wr o_ M ∧ Below w.heap.size w wr) (fun _ i _ => L.length - (intOf i).toNat)
  case atStart => exact ⟨0, [], Nat.zero_le _, rfl, rfl, rfl, ⟨World.ownsRow_nil _ _ _ _, by simp⟩, HB2.out⟩
  case round =>
    obtain ⟨j, M, hj, rfl, hml, hmm, hso, hb⟩ := hrel
    have HML := Lib.hid hml
    have hm64 : M.length ≤ 64 := by omega
    clear hml
    have HM := Lib.hid hmm
    have HSW := Lib.hid hso
    have HB := Lib.hid hb
    obtain ⟨ao, co, rfl, -, -⟩ := (SlR.of_own hso.s).shape
    clear hmm hso hb HB2
    by_cases hlt : j < L.length
    · have hlt2 : j < D.length := by omega
      obtain ⟨b, o, rfl, y0, y1, y2, hy⟩ := (HS.out.below HB.out).at hlt
      obtain ⟨b3, o3, rfl, z0, z1, z2⟩ := dv_at (HD.out.below HB.out) hlt2
      have hlz : j < ((L.map Prod.fst).zip D).length := by rw [List.length_zip, List.length_map]; omega
      have HST := Lib.hid (show ∀ M2 : List (Sg × Value), M2.map Prod.fst = M.map Prod.fst ++ [restE (S.map Prod.fst) L[j].1 D[j]] → M2.map Prod.fst = (((L.map Prod.fst).zip D).take (j + 1)).map (fun p => restE (S.map Prod.fst) p.1 p.2) from fun M2 h => by
        rw [h, HM.out, List.take_succ_eq_append_getElem hlz, List.map_append, List.getElem_zip]; simp)
      have hfi : fitsR L[j].1 (S.map Prod.fst) D[j] = true := HFI.out j L[j].1 D[j] (by simp [hlt]) (by simp [hlt2])
      generalize L[j] = x at y0 y1 y2 hy HST hfi
      generalize D[j] = d at z0 z1 z2 HST hfi
      obtain ⟨⟨xk, xn, xl⟩, xv⟩ := x
      obtain ⟨do_, df, di⟩ := d
      dsimp only at y0 y1 y2 hy HST z0 z1 z2 hfi
      obtain ⟨xa, xc, rfl, -, -⟩ := hy.shape
      have hz0 := cell_lt z0
      have hx7 := OwnRow.fresh (wr.alloc (.cells #[.int .i64 xk, .int .i64 xn, .slice xa xl.length xc] 37)) #[.int .i64 xk, .int .i64 xn, .slice none 0 0] 37
      have hb7 : Below wr.heap.size wr ((wr.alloc (.cells #[.int .i64 xk, .int .i64 xn, .slice xa xl.length xc] 37)).alloc (.cells #[.int .i64 xk, .int .i64 xn, .slice none 0 0] 37)) := ((Below.refl _ _).alloc (Nat.le_refl _) _).alloc (by simp) _
      have hs7 := (OwnRow.fresh wr #[.int .i64 xk, .int .i64 xn, .slice xa xl.length xc] 37).alloc (by simp) (.cells #[.int .i64 xk, .int .i64 xn, .slice none 0 0] 37)
      have hz7 : wr.heap.size + 1 < ((wr.alloc (.cells #[.int .i64 xk, .int .i64 xn, .slice xa xl.length xc] 37)).alloc (.cells #[.int .i64 xk, .int .i64 xn, .slice none 0 0] 37)).heap.size := by simp
      simp only [World.size_alloc] at hx7
      obtain ⟨w7, hw7⟩ : ∃ w7, w7 = (wr.alloc (.cells #[.int .i64 xk, .int .i64 xn, .slice xa xl.length xc] 37)).alloc (.cells #[.int .i64 xk, .int .i64 xn, .slice none 0 0] 37) := ⟨_, rfl⟩
      rw [← hw7] at hx7 hb7 hs7 hz7
      have HX7 := Lib.hid hx7
      have HS7 := Lib.hid hs7
      have HB7W := Lib.hid (HB.out.trans (hb7.mono HB.out.size))
      have hsz0 := HB.out.size
      clear hx7 hs7 hy
      by_cases hn : do_ = -1
      · subst hn
        have HE := Lib.hid (show restE (S.map Prod.fst) (xk, xn, xl) (-1, df, di) = (xk, xn, []) by unfold restE; rw [if_pos rfl])
        have HSO7 := Lib.hid (HSW.out.later hb7)
        clear hfi hb7
        go_upto_region 11 with fail
        rw [← hw7]
        clear hw7 z0 z1 z2 y0 y1 y2
        have c0 := (HX7.out).cell (j := 0) rfl
        have c1 := (HX7.out).cell (j := 1) rfl
        have c2 := (HX7.out).cell (j := 2) rfl
        have HC := Lib.hid (World.news_of_block (w := (w7).alloc (.cells #[.int .i64 xk, .int .i64 xn, .slice none 0 0] 37)) (cs := #[.int .i64 xk, .int .i64 xn, .slice none 0 0]) (t := 37) (fr := (0, 0)) (by exact heap_alloc_new _ _))
        have hso := (HSO7.out).later ((Below.refl (w7).heap.size w7).alloc (Nat.le_refl _) (.cells #[.int .i64 xk, .int .i64 xn, .slice none 0 0] 37))
        have HSO := Lib.hid hso
        have HVO := Lib.hid (own_later (show w7.ownsRow w.heap.size 75 2 (.slice none 0 0) 0 [] from World.ownsRow_nil _ _ _ _) ((Below.refl (w7).heap.size w7).alloc (Nat.le_refl _) (.cells #[.int .i64 xk, .int .i64 xn, .slice none 0 0] 37)))
        have HB7 := Lib.hid ((HB7W.out).alloc (HB7W.out).size (.cells #[.int .i64 xk, .int .i64 xn, .slice none 0 0] 37))
        have hsz7 := (HB7W.out).size
        clear hso
        go_wp2_with (at_builtin; refine wpList_append_own_at _ rfl _ _ 22 rfl w.heap.size 37 i0 (.agg #[.int .i64 0, .int .i64 0, .slice none 0 0]) 3 40 Tryz.underlying22 hi iz0 iz1 iz2 rfl (by decide) _ _ _ rfl HSO.out.s ⟨(w7).heap.size, 0, none⟩ 1 1 [.int .i64 xk, .int .i64 xn, .slice none 0 0] rfl rfl HC.out (by simp [Value.oneCell']) (by unfold maxLen; omega) (by omega) (by simp; omega) ?_)
        intro v8 w8 ho8 hg8 _ _
        have HS8 := Lib.hid (HSO.out.snoc (s := (xk, xn, [])) hg8 HVO.out ho8)
        have HB8 := Lib.hid (HB7.out.grown hg8 (by simp; omega) (fun q hq => (HSO.out.s.lt q hq).1))
        clear ho8 hg8 c0 c1 c2
        go_wp2_with fail
        go_roundw
        case rel => exact ⟨j + 1, _, by omega, by go_num, by simp [HML.out], HST.out _ (by rw [HE.out]; simp), HS8.out, HB8.out⟩
        case measure => simp [intOf]; omega
      · have hnb : (do_ != -1) = true := by rw [bne_iff_ne]; exact hn
        have hrg := fits_range hfi hn
        rw [List.length_map] at hrg
        obtain ⟨jj, rfl⟩ : ∃ jj : Nat, do_ = (jj : Int) := ⟨do_.toNat, by dsimp only at hrg; omega⟩
        have hjj : jj < S.length := by dsimp only at hrg; omega
        obtain ⟨b4, o4, rfl, t0, t1, t2, ht⟩ := (HT.out.below HB.out).at hjj
        have HE := Lib.hid (show restE (S.map Prod.fst) (xk, xn, xl) ((jj : Int), df, di) = (xk, xn, (partR S[jj].1 df di xn).1.2.2) by
          unfold restE
          dsimp only
          rw [if_neg (by omega), Int.toNat_natCast, sgAt_lt (by simpa using hjj)]; simp)
        have HFX := Lib.hid (HF.out.2 S[jj] (List.getElem_mem hjj))
        generalize S[jj] = y at t0 t1 t2 ht HE HFX
        obtain ⟨⟨yk, yn, yl⟩, yv⟩ := y
        dsimp only at t0 t1 t2 ht HE HFX
        obtain ⟨ya, yc, rfl, -, -⟩ := ht.shape
        have HTX := Lib.hid ht
        have hpf := (part_fit (st := (yk, yn, yl)) HFX.out df di xn).1
        have HPT := Lib.hid (fun W (hW : Below w7.heap.size w7 W) => al_part (yk, yn, yl) (.slice ya yl.length yc) (jj : Int) df xn di W (HG.out.below (ext_trans HB7W.out hW)) (ht.below (ext_trans hb7 hW)) HFX.out)
        generalize partR (yk, yn, yl) df di xn = r at HE hpf HPT
        obtain ⟨⟨rk, rn, rl⟩, rb⟩ := r
        dsimp only at HE hpf
        have q0 := (hb7.cell (cell_lt z0)).trans z0
        have q1 := (hb7.cell (cell_lt z1)).trans z1
        have q2 := (hb7.cell (cell_lt z2)).trans z2
        have q3 := (hb7.cell (cell_lt t0)).trans t0
        have q4 := (hb7.cell (cell_lt t1)).trans t1
        have q5 := (hb7.cell (cell_lt t2)).trans t2
        have q6 := HS7.out.cell (j := 1) rfl
        have HQ := Lib.hid (And.intro q0 (And.intro q1 (And.intro q2 (And.intro q3 (And.intro q4 (And.intro q5 q6))))))
        have HH7 := Lib.hid hb7
        have hzl := cell_lt q0
        have hzl4 := cell_lt q3
        clear ht hfi hrg hn
        have hlx : w7.heap.size < (w7.alloc (.cells #[.int .i64 0, .int .i64 0, .slice none 0 0] 37)).drew.heap.size := by
          show w7.heap.size < (w7.alloc (.cells #[.int .i64 0, .int .i64 0, .slice none 0 0] 37)).heap.size
          simp
        go_upto_region 9 with fail
        rw [← hw7]
        clear hw7 z0 z1 z2 y0 y1 y2 t0 t1 t2 hb7
        go_region_held3 (fun w' => w'.cell? ⟨b3, o3 + j * 3, none⟩ = some (.int .i64 (jj : Int)) ∧ w'.cell? ⟨b3, o3 + j * 3 + 1, none⟩ = some (.int .i64 df) ∧ w'.cell? ⟨b3, o3 + j * 3 + 2, none⟩ = some (.bool di) ∧
            w'.cell? ⟨b4, o4 + jj * 3, none⟩ = some (.int .i64 yk) ∧ w'.cell? ⟨b4, o4 + jj * 3 + 1, none⟩ = some (.int .i64 yn) ∧ w'.cell? ⟨b4, o4 + jj * 3 + 2, none⟩ = some (.slice ya yl.length yc) ∧ w'.cell? ⟨wr.heap.size, 1, none⟩ = some (.int .i64 xn))
          (first | exact ⟨q0, q1, q2, q3, q4, q5, q6⟩ | exact ⟨v0, v1, v2, v3, v4, v5, v6⟩ | (exact (have hq := below_set3' B5.out (Nat.le_refl _) (.int .i64 rk) (.int .i64 rn) (.slice a5 rl.length c5); ⟨(hq.cell hzl).trans HQ.out.1, (hq.cell hzl).trans HQ.out.2.1, (hq.cell hzl).trans HQ.out.2.2.1, (hq.cell hzl4).trans HQ.out.2.2.2.1, (hq.cell hzl4).trans HQ.out.2.2.2.2.1, (hq.cell hzl4).trans HQ.out.2.2.2.2.2.1, (hq.cell (show wr.heap.size < _ by omega)).trans HQ.out.2.2.2.2.2.2⟩)) | go_keep)
          (first
            | (go_at_call 54; (with_reducible refine (HPT.out _ ?_).mono ?_); (exact below_drewN (Below.refl _ _) _); rintro e w5 ⟨v5', rfl, hq5, hb5⟩; have b5 := below_undrew hb5; (try dsimp only at hq5); have ho5 := hq5.slr (HTX.out.below (ext_trans HH7.out b5)); obtain ⟨a5, c5, rfl, -, -⟩ := ho5.shape; have v0 := (b5.cell hzl).trans HQ.out.1; have v1 := (b5.cell hzl).trans HQ.out.2.1; have v2 := (b5.cell hzl).trans HQ.out.2.2.1; have v3 := (b5.cell hzl4).trans HQ.out.2.2.2.1; have v4 := (b5.cell hzl4).trans HQ.out.2.2.2.2.1; have v5 := (b5.cell hzl4).trans HQ.out.2.2.2.2.2.1; have v6 := (b5.cell (show wr.heap.size < _ by omega)).trans HQ.out.2.2.2.2.2.2; have B5 := Lib.hid b5; have HO5 := Lib.hid ho5; have hz5 := b5.size; clear b5 hb5 ho5 hq5)
            | (go_at_call 54; (with_reducible refine (HPT.out _ ?_).mono ?_); (exact ((Below.refl w7.heap.size w7).alloc (Nat.le_refl _) _).drew); rintro e w5 ⟨v5', rfl, hq5, hb5⟩; have b5 : Below w7.heap.size w7 w5 := ((Below.refl w7.heap.size w7).alloc (Nat.le_refl _) (.cells #[.int .i64 0, .int .i64 0, .slice none 0 0] 37)).drew.trans (hb5.mono (Nat.le_of_lt hlx)); (try dsimp only at hq5); have ho5 := hq5.slr (HTX.out.below (ext_trans HH7.out b5)); obtain ⟨a5, c5, rfl, -, -⟩ := ho5.shape; have HQ5 := Lib.hid hq5; have v0 := (b5.cell hzl).trans HQ.out.1; have v1 := (b5.cell hzl).trans HQ.out.2.1; have v2 := (b5.cell hzl).trans HQ.out.2.2.1; have v3 := (b5.cell hzl4).trans HQ.out.2.2.2.1; have v4 := (b5.cell hzl4).trans HQ.out.2.2.2.2.1; have v5 := (b5.cell hzl4).trans HQ.out.2.2.2.2.2.1; have v6 := (b5.cell (show wr.heap.size < _ by omega)).trans HQ.out.2.2.2.2.2.2; have hx5 : OwnRow w5 w7.heap.size [.int .i64 0, .int .i64 0, .slice none 0 0] := ((OwnRow.fresh w7 #[.int .i64 0, .int .i64 0, .slice none 0 0] 37).drew).below hb5 hlx; have x5 := hx5.cell (j := 0) rfl; have x6 := hx5.cell (j := 1) rfl; have x7 := hx5.cell (j := 2) rfl; have z0 := hx5.free (j := 0) (by simp); have z1 := hx5.free (j := 1) (by simp); have z2 := hx5.free (j := 2) (by simp); have hl5 : w7.heap.size < w5.heap.size := (Nat.lt_of_lt_of_le hlx hb5.size); have HX5 := Lib.hid hx5; have B5 := Lib.hid b5; have HO5 := Lib.hid ho5; have hz5 := b5.size; clear b5 hb5 ho5 hq5)
            | (go_at_call 54; (with_reducible refine (HPT.out _ ?_).mono ?_); (exact (below_drewN (Below.refl _ _) _).alloc (by simp) _); rintro e w5 ⟨v5', rfl, hq5, hb5⟩; have b5 := below_undrew (below_alloc0 hb5); (try dsimp only at hq5); have ho5 := hq5.slr (HTX.out.below (ext_trans HH7.out b5)); obtain ⟨a5, c5, rfl, -, -⟩ := ho5.shape; have HQ5 := Lib.hid hq5; have v0 := (b5.cell hzl).trans HQ.out.1; have v1 := (b5.cell hzl).trans HQ.out.2.1; have v2 := (b5.cell hzl).trans HQ.out.2.2.1; have v3 := (b5.cell hzl4).trans HQ.out.2.2.2.1; have v4 := (b5.cell hzl4).trans HQ.out.2.2.2.2.1; have v5 := (b5.cell hzl4).trans HQ.out.2.2.2.2.2.1; have v6 := (b5.cell (show wr.heap.size < _ by omega)).trans HQ.out.2.2.2.2.2.2; have hx5 : OwnRow w5 w7.heap.size [.int .i64 0, .int .i64 0, .slice none 0 0] := (OwnRow.fresh w7.drew #[.int .i64 0, .int .i64 0, .slice none 0 0] 37).below hb5 (by simp); have x5 := hx5.cell (j := 0) rfl; have x6 := hx5.cell (j := 1) rfl; have x7 := hx5.cell (j := 2) rfl; have z0 := hx5.free (j := 0) (by simp); have z1 := hx5.free (j := 1) (by simp); have z2 := hx5.free (j := 2) (by simp); have hl5 : w7.heap.size < w5.heap.size := (by have := hb5.size; simp at this; omega); have HX5 := Lib.hid hx5; have B5 := Lib.hid b5; have HO5 := Lib.hid ho5; have hz5 := b5.size; clear b5 hb5 ho5 hq5)
            | fail "no arm")
        · rename_i hh
          clear hh
          have hal := (Below.refl w5.heap.size w5).alloc (Nat.le_refl _) (.cells #[.int .i64 rk, .int .i64 rn, .slice a5 rl.length c5] 37)
          have hb8 := ext_trans B5.out hal
          have ho8 := HO5.out.below hal
          have hy8 := OwnRow.fresh w5 #[.int .i64 rk, .int .i64 rn, .slice a5 rl.length c5] 37
          clear hal v0 v1 v2 v3 v4 v5 v6 q0 q1 q2 q3 q4 q5 q6
          generalize w5.alloc (.cells #[.int .i64 rk, .int .i64 rn, .slice a5 rl.length c5] 37) = w8 at hb8 ho8 hy8 ⊢
          generalize w5.heap.size = Dy at hy8 ⊢
          have hz8 := hb8.size
          have y2 := hy8.cell (j := 2) rfl
          have hb80 := ext_trans HH7.out hb8
          have HX8 := Lib.hid (HX7.out.below hb8 (by omega))
          have HB80 := Lib.hid hb80
          clear hb8 hb80 hy8
          go_wp2_with fail
          refine (clone_ch _ rl _ ho8 hpf).mono ?_
          rintro e w9 ⟨v9, rfl, ho9, hb9⟩
          obtain ⟨a9, c9, rfl, -, -⟩ := (SlR.of_own ho9).shape
          have hx9 := HX8.out.below hb9 (by omega)
          have x2c := hx9.cell (j := 2) rfl
          have x2f := hx9.free (j := 2) (by simp)
          have hx10 := hx9.set (j := 2) (by simp) (.slice a9 rl.length c9)
          have hb10 := (ext_trans HB80.out hb9).setCell (p := ⟨wr.heap.size + 1, 2, none⟩) (by simp) (.slice a9 rl.length c9)
          have hv10 := ownsRow_base (base' := w.heap.size) (ownsRow_setCell_below ho9 (a := ⟨wr.heap.size + 1, 2, none⟩) (by simp; omega) (.slice a9 rl.length c9)) (by omega)
          have HX10 := Lib.hid hx10
          have HSO10 := Lib.hid (HSW.out.later hb10)
          have HV10 := Lib.hid hv10
          have HB10 := Lib.hid (HB.out.trans (hb10.mono HB.out.size))
          clear hx9 hx10 hb10 hv10 ho9 hb9 ho8 y2
          obtain ⟨w10, hw10⟩ : ∃ w10, w10 = w9.setCell ⟨wr.heap.size + 1, 2, none⟩ (.slice a9 rl.length c9) := ⟨_, rfl⟩
          rw [← hw10] at HX10 HSO10 HV10 HB10
          go_upto_region 11 with fail
          rw [← hw10]
          clear hw10 x2c x2f
          have c0 := (HX10.out).cell (j := 0) rfl
          have c1 := (HX10.out).cell (j := 1) rfl
          have c2 := (HX10.out).cell (j := 2) rfl
          have HC := Lib.hid (World.news_of_block (w := (w10).alloc (.cells #[.int .i64 xk, .int .i64 xn, .slice a9 rl.length c9] 37)) (cs := #[.int .i64 xk, .int .i64 xn, .slice a9 rl.length c9]) (t := 37) (fr := (0, 0)) (by exact heap_alloc_new _ _))
          have hso := (HSO10.out).later ((Below.refl (w10).heap.size w10).alloc (Nat.le_refl _) (.cells #[.int .i64 xk, .int .i64 xn, .slice a9 rl.length c9] 37))
          have HSO := Lib.hid hso
          have HVO := Lib.hid (own_later HV10.out ((Below.refl (w10).heap.size w10).alloc (Nat.le_refl _) (.cells #[.int .i64 xk, .int .i64 xn, .slice a9 rl.length c9] 37)))
          have HB7 := Lib.hid ((HB10.out).alloc (HB10.out).size (.cells #[.int .i64 xk, .int .i64 xn, .slice a9 rl.length c9] 37))
          have hsz7 := (HB10.out).size
          clear hso
          go_wp2_with (at_builtin; refine wpList_append_own_at _ rfl _ _ 22 rfl w.heap.size 37 i0 (.agg #[.int .i64 0, .int .i64 0, .slice none 0 0]) 3 40 Tryz.underlying22 hi iz0 iz1 iz2 rfl (by decide) _ _ _ rfl HSO.out.s ⟨(w10).heap.size, 0, none⟩ 1 1 [.int .i64 xk, .int .i64 xn, .slice a9 rl.length c9] rfl rfl HC.out (by simp [Value.oneCell']) (by unfold maxLen; omega) (by omega) (by simp; omega) ?_)
          intro v8 w8 ho8 hg8 _ _
          have HS8 := Lib.hid (HSO.out.snoc (s := (xk, xn, rl)) hg8 HVO.out ho8)
          have HB8 := Lib.hid (HB7.out.grown hg8 (by simp; omega) (fun q hq => (HSO.out.s.lt q hq).1))
          clear ho8 hg8 c0 c1 c2
          go_wp2_with fail
          go_roundw
          case rel => exact ⟨j + 1, _, by omega, by go_num, by simp [HML.out], HST.out _ (by rw [HE.out]; simp), HS8.out, HB8.out⟩
          case measure => simp [intOf]; omega
        · rename_i hh
          clear hh
          have hb8 := below_set3' B5.out (Nat.le_refl _) (.int .i64 rk) (.int .i64 rn) (.slice a5 rl.length c5)
          have ho8 := OneOf.slr (OneOf.set3 HQ5.out (show w7.heap.size < _ by simp) (.int .i64 rk) (.int .i64 rn) (.slice a5 rl.length c5)) (HTX.out.below (ext_trans HH7.out hb8))
          have hy8 := ((HX5.out.set (j := 0) (by simp) (.int .i64 rk)).set (j := 1) (by simp) (.int .i64 rn)).set (j := 2) (by simp) (.slice a5 rl.length c5)
          clear v0 v1 v2 v3 v4 v5 v6 q0 q1 q2 q3 q4 q5 q6 hx5 x5 x6 x7 z0 z1 z2
          generalize ((w5.setCell ⟨w7.heap.size, 0, none⟩ (.int .i64 rk)).setCell ⟨w7.heap.size, 1, none⟩ (.int .i64 rn)).setCell ⟨w7.heap.size, 2, none⟩ (.slice a5 rl.length c5) = w8 at hb8 ho8 hy8 ⊢
          generalize hDy : w7.heap.size = Dy at hy8 ⊢
          have hz8 := hb8.size
          have y2 := hy8.cell (j := 2) rfl
          have hb80 := ext_trans HH7.out hb8
          have HX8 := Lib.hid (HX7.out.below hb8 (by omega))
          have HB80 := Lib.hid hb80
          clear hb8 hb80 hy8
          go_wp2_with fail
          refine (clone_ch _ rl _ ho8 hpf).mono ?_
          rintro e w9 ⟨v9, rfl, ho9, hb9⟩
          obtain ⟨a9, c9, rfl, -, -⟩ := (SlR.of_own ho9).shape
          have hx9 := HX8.out.below hb9 (by omega)
          have x2c := hx9.cell (j := 2) rfl
          have x2f := hx9.free (j := 2) (by simp)
          have hx10 := hx9.set (j := 2) (by simp) (.slice a9 rl.length c9)
          have hb10 := (ext_trans HB80.out hb9).setCell (p := ⟨wr.heap.size + 1, 2, none⟩) (by simp) (.slice a9 rl.length c9)
          have hv10 := ownsRow_base (base' := w.heap.size) (ownsRow_setCell_below ho9 (a := ⟨wr.heap.size + 1, 2, none⟩) (by simp; omega) (.slice a9 rl.length c9)) (by omega)
          have HX10 := Lib.hid hx10
          have HSO10 := Lib.hid (HSW.out.later hb10)
          have HV10 := Lib.hid hv10
          have HB10 := Lib.hid (HB.out.trans (hb10.mono HB.out.size))
          clear hx9 hx10 hb10 hv10 ho9 hb9 ho8 y2
          obtain ⟨w10, hw10⟩ : ∃ w10, w10 = w9.setCell ⟨wr.heap.size + 1, 2, none⟩ (.slice a9 rl.length c9) := ⟨_, rfl⟩
          rw [← hw10] at HX10 HSO10 HV10 HB10
          go_upto_region 11 with fail
          rw [← hw10]
          clear hw10 x2c x2f
          have c0 := (HX10.out).cell (j := 0) rfl
          have c1 := (HX10.out).cell (j := 1) rfl
          have c2 := (HX10.out).cell (j := 2) rfl
          have HC := Lib.hid (World.news_of_block (w := (w10).alloc (.cells #[.int .i64 xk, .int .i64 xn, .slice a9 rl.length c9] 37)) (cs := #[.int .i64 xk, .int .i64 xn, .slice a9 rl.length c9]) (t := 37) (fr := (0, 0)) (by exact heap_alloc_new _ _))
          have hso := (HSO10.out).later ((Below.refl (w10).heap.size w10).alloc (Nat.le_refl _) (.cells #[.int .i64 xk, .int .i64 xn, .slice a9 rl.length c9] 37))
          have HSO := Lib.hid hso
          have HVO := Lib.hid (own_later HV10.out ((Below.refl (w10).heap.size w10).alloc (Nat.le_refl _) (.cells #[.int .i64 xk, .int .i64 xn, .slice a9 rl.length c9] 37)))
          have HB7 := Lib.hid ((HB10.out).alloc (HB10.out).size (.cells #[.int .i64 xk, .int .i64 xn, .slice a9 rl.length c9] 37))
          have hsz7 := (HB10.out).size
          clear hso
          go_wp2_with (at_builtin; refine wpList_append_own_at _ rfl _ _ 22 rfl w.heap.size 37 i0 (.agg #[.int .i64 0, .int .i64 0, .slice none 0 0]) 3 40 Tryz.underlying22 hi iz0 iz1 iz2 rfl (by decide) _ _ _ rfl HSO.out.s ⟨(w10).heap.size, 0, none⟩ 1 1 [.int .i64 xk, .int .i64 xn, .slice a9 rl.length c9] rfl rfl HC.out (by simp [Value.oneCell']) (by unfold maxLen; omega) (by omega) (by simp; omega) ?_)
          intro v8 w8 ho8 hg8 _ _
          have HS8 := Lib.hid (HSO.out.snoc (s := (xk, xn, rl)) hg8 HVO.out ho8)
          have HB8 := Lib.hid (HB7.out.grown hg8 (by simp; omega) (fun q hq => (HSO.out.s.lt q hq).1))
          clear ho8 hg8 c0 c1 c2
          go_wp2_with fail
          go_roundw
          case rel => exact ⟨j + 1, _, by omega, by go_num, by simp [HML.out], HST.out _ (by rw [HE.out]; simp), HS8.out, HB8.out⟩
          case measure => simp [intOf]; omega
    · obtain rfl : j = L.length := by omega
      have HR2 := Lib.hid (show M.map Prod.fst = (restR (L.map Prod.fst) (S.map Prod.fst) D).1 by
        rw [HR.out, HM.out, List.take_of_length_le (by rw [List.length_zip, List.length_map]; omega)])
      go_wp2_with fail
      refine bodyPost_ret (v := .tuple #[.slice ao M.length co, .int .i64 0]) (by simp [results, Tryz.results16, go_sem]) rfl ?_
      exact ⟨_, M, by rw [HR.out], HR2.out, HSW.out, HB.out⟩
end Go.Proofs.YtimeilkelnljnaaGreatDoor
