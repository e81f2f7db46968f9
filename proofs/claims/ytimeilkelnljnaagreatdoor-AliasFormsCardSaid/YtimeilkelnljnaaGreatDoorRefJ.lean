import Derived.Test.YtimeilkelnljnaaGreatDoorRefI
import Derived.Test.YtimeilkelnljnaaGreatDoorSig9
namespace Go.Proofs.YtimeilkelnljnaaGreatDoor
open Go.RowKit

set_option maxHeartbeats 400000 in
theorem ref_inT_yes (t : Int) (w : World) (h0 : 0 ≤ t) (h1 : t ≤ 1099511627776) : Calls Tryz.prog 71 #[.int .i64 t] w fun e w' => e = .returned (.bool true) ∧ w = w' := by
  go_enter Tryz.func71, Tryz.ntmps71
  go_wp2_with fail
  go_ret
  exact ⟨ret_bool (by first | rfl | simp; omega), rfl⟩
set_option maxHeartbeats 400000 in
theorem ref_inT_no (t : Int) (w : World) (h : t < 0 ∨ 1099511627776 < t) : Calls Tryz.prog 71 #[.int .i64 t] w fun e w' => e = .returned (.bool false) ∧ w = w' := by
  rcases h with h | h
  · go_enter Tryz.func71, Tryz.ntmps71
    go_wp2_with fail
    go_ret
    exact ⟨ret_bool (by first | rfl | simp; omega), rfl⟩
  · have h0 : 0 ≤ t := by omega
    go_enter Tryz.func71, Tryz.ntmps71
    go_wp2_with fail
    go_ret
    exact ⟨ret_bool (by first | rfl | simp; omega), rfl⟩

set_option maxHeartbeats 800000 in
set_option maxRecDepth 100000 in
theorem ref_sValid (k n : Int) (v : Value) (l : List Ch) (w : World) (hs : SlR w v l.length (chs l)) (hf : Fit l) :
    Calls Tryz.prog 41 #[.agg #[.int .i64 k, .int .i64 n, v]] w fun e w' => e = .returned (.bool (sv k n l)) ∧ Below w.heap.size w w' := by
  obtain ⟨a, cap, rfl, hc, hm⟩ := hs.shape
  have hln := hf.1
  unfold maxLen at hm
  have HT := Lib.hid (fun W => ref_ValidType k n W)
  cases hv : vt k n
  · have E := Lib.hid (show sv k n l = false by simp [sv, hv])
    rw [hv] at HT
    clear hv
    go_enter Tryz.func41, Tryz.ntmps41
    go_wp2_with fail
    refine (HT.out _).mono ?_
    rintro e w1 ⟨rfl, rfl⟩
    go_wp2_with fail
    go_ret
    exact ⟨ret_bool E.out.symm, (Below.refl _ _).alloc (Nat.le_refl _) _⟩
  by_cases h4 : 4096 < l.length
  · have E := Lib.hid (show sv k n l = false by simp [sv]; omega)
    rw [hv] at HT
    clear hv
    go_enter Tryz.func41, Tryz.ntmps41
    go_wp2_with fail
    refine (HT.out _).mono ?_
    rintro e w1 ⟨rfl, rfl⟩
    go_wp2_with fail
    go_ret
    exact ⟨ret_bool E.out.symm, (Below.refl _ _).alloc (Nat.le_refl _) _⟩
  have e : sv k n l = svGo k n (-1) (vi k n) l := by simp [sv, hv]; omega
  rw [hv] at HT
  have E := Lib.hid e
  have HS := Lib.hid hs
  have HF := Lib.hid hf
  clear e hs hf hv
  go_enter Tryz.func41, Tryz.ntmps41
  go_wp2_with fail
  refine (HT.out _).mono ?_
  rintro e w1 ⟨rfl, rfl⟩
  go_wp2_with fail
  refine (ref_vInitial k n _).mono ?_
  rintro e w2 ⟨rfl, hb2⟩
  have HB12 := Lib.hid hb2
  clear hb2
  go_wp2_with fail
  go_loopw [3, 4, 5] (fun v_ a_ i wr => ∃ (j : Nat) (at_ : Int) (v : ByteArray), j ≤ l.length ∧ i = .int .i64 j ∧ a_ = .int .i64 at_ ∧ v_ = .string v ∧ -1 ≤ at_ ∧ svGo k n at_ v (l.drop j) = svGo k n (-1) (vi k n) l ∧
      Below (w.alloc (.cells #[.int .i64 k, .int .i64 n, .slice a l.length cap] 37)).heap.size (w.alloc (.cells #[.int .i64 k, .int .i64 n, .slice a l.length cap] 37)) wr)
    (fun _ _ i _ => l.length - (intOf i).toNat)
  case atStart => exact ⟨0, -1, vi k n, Nat.zero_le _, rfl, rfl, rfl, by omega, rfl, HB12.out⟩
  case round =>
    obtain ⟨j, at_, v, hj, rfl, rfl, rfl, hat, hgo, hb⟩ := hrel
    obtain ⟨c0, c1, c2⟩ := box3 hb
    have hbw := ext_alloc hb
    have hsz0 : w.heap.size < wr.heap.size := by have := hb.size; simp at this; omega
    have HGO := Lib.hid hgo
    clear hgo
    by_cases hlt : j < l.length
    · obtain ⟨b, o, rfl, d0, d1⟩ := (HS.out.below hbw).ch hlt
      have hfit : l[j].2.size ≤ maxLen := by
        have := HF.out.2 l[j] (List.getElem_mem hlt)
        unfold maxLen; omega
      have HGO2 : Hid ((if l[j].1 ≤ at_ ∨ 1099511627776 < l[j].1 then false else if vv k n l[j].2 = false then false else if k ≠ 3 ∧ l[j].2 = v then false else svGo k n l[j].1 l[j].2 (l.drop (j + 1))) = svGo k n (-1) (vi k n) l) := Lib.hid (by
        have := HGO.out
        rw [List.drop_eq_getElem_cons hlt, svGo] at this
        exact this)
      generalize l[j] = c at d0 d1 hfit HGO2
      obtain ⟨t, s⟩ := c
      simp only at d0 d1 hfit
      by_cases hA : t ≤ at_ ∨ 1099511627776 < t
      · have E2 := Lib.hid (E.out.trans (show svGo k n (-1) (vi k n) l = false by rw [← HGO2.out, if_pos hA]))
        by_cases hin : t < 0 ∨ 1099511627776 < t
        · have HIN := Lib.hid (fun W => ref_inT_no t W hin)
          clear hin hA
          go_wp2_with fail
          refine (HIN.out _).mono ?_
          rintro e w3 ⟨rfl, rfl⟩
          go_wp2_with fail
          go_ret
          exact ⟨ret_bool E2.out.symm, hbw.alloc hbw.size _⟩
        · have HIN := Lib.hid (fun W => ref_inT_yes t W (by omega) (by omega))
          have hA1 : t ≤ at_ := by omega
          clear hin hA
          go_wp2_with fail
          refine (HIN.out _).mono ?_
          rintro e w3 ⟨rfl, rfl⟩
          go_wp2_with fail
          go_ret
          exact ⟨ret_bool E2.out.symm, hbw.alloc hbw.size _⟩
      · have HIN := Lib.hid (fun W => ref_inT_yes t W (by omega) (by omega))
        obtain ⟨hA1, hA2⟩ : at_ < t ∧ t ≤ 1099511627776 := by omega
        have HGO3 := Lib.hid ((if_neg hA).symm.trans HGO2.out)
        clear hA
        have HB := Lib.hid hb
        have HBW := Lib.hid hbw
        have HVal := Lib.hid (fun W => ref_vValid k n s W hfit)
        clear hb hbw
        go_wp2_with fail
        refine (HIN.out _).mono ?_
        rintro e w3 ⟨rfl, rfl⟩
        cases hV : vv k n s
        · have E2 := Lib.hid (E.out.trans (show svGo k n (-1) (vi k n) l = false by rw [← HGO3.out, if_pos hV]))
          rw [hV] at HVal
          clear hV
          go_wp2_with fail
          refine (HVal.out _).mono ?_
          rintro e w3 ⟨rfl, hb3⟩
          go_wp2_with fail
          go_ret
          exact ⟨ret_bool E2.out.symm, ext_trans HBW.out (ext_alloc hb3)⟩
        · rw [hV] at HVal
          have HVV := Lib.hid hV
          clear hV
          go_wp2_with fail
          refine (HVal.out _).mono ?_
          rintro e w3 ⟨rfl, hb3⟩
          have hbx := ext_trans HBW.out (ext_alloc hb3)
          have hb4 : Below (w.alloc (.cells #[.int .i64 k, .int .i64 n, .slice (some ⟨b, o, none⟩) l.length cap] 37)).heap.size (w.alloc (.cells #[.int .i64 k, .int .i64 n, .slice (some ⟨b, o, none⟩) l.length cap] 37)) w3 := ext_trans HB.out (ext_alloc hb3)
          obtain ⟨c0', c1', c2'⟩ := box3 hb4
          have p0 : w3.cell? ⟨wr.heap.size, 0, none⟩ = some (.int .i64 t) := (boxN hb3 0).1
          have p1 : w3.cell? ⟨wr.heap.size, 1, none⟩ = some (.string s) := (boxN hb3 1).1
          have hsz := hb3.size
          have HB4 := Lib.hid hb4
          have HB3 := Lib.hid hb3
          clear c0 c1 c2 d0 d1 hb4 hb3
          by_cases hk : k ≠ 3 ∧ s = v
          · have E2 := Lib.hid (E.out.trans (show svGo k n (-1) (vi k n) l = false by rw [← HGO3.out, if_neg (by rw [HVV.out]; simp), if_pos hk]))
            have hk1 : (k != 3) = true := by rw [bne_iff_ne]; exact hk.1
            obtain ⟨-, rfl⟩ := hk
            go_wp2_with fail
            go_ret
            exact ⟨ret_bool E2.out.symm, hbx⟩
          · have E2 := Lib.hid (show svGo k n t s (l.drop (j + 1)) = svGo k n (-1) (vi k n) l by rw [← HGO3.out, if_neg (by rw [HVV.out]; simp), if_neg hk])
            by_cases hk3 : k = 3
            · subst hk3
              go_wp2_with fail
              go_quiet (fail)
              go_wp2_with fail
              go_roundw
              case rel => exact ⟨j + 1, t, s, by omega, by go_num, rfl, rfl, by omega, E2.out, below_drewN HB4.out _⟩
              case measure => simp [intOf]; omega
            · have hk1 : (k != 3) = true := by rw [bne_iff_ne]; exact hk3
              have hsv : (s.toList == v.toList) = false := ba_ne (fun e => hk ⟨hk3, e⟩)
              clear hk hk3
              go_wp2_with fail
              go_quiet (fail)
              go_wp2_with fail
              go_roundw
              case rel => exact ⟨j + 1, t, s, by omega, by go_num, rfl, rfl, by omega, E2.out, below_drewN HB4.out _⟩
              case measure => simp [intOf]; omega
    · obtain rfl : j = l.length := by omega
      have E2 := Lib.hid (E.out.trans (show svGo k n (-1) (vi k n) l = true by rw [← HGO.out, List.drop_length]; rfl))
      go_wp2_with fail
      go_ret
      exact ⟨ret_bool E2.out.symm, hbw⟩
end Go.Proofs.YtimeilkelnljnaaGreatDoor
