/- The reference's Off, insert and Times; wavestoreref20.Ints. -/
import Derived.Test.YtbiadennhnokhaaGreatDoorZ40
import Derived.Test.YtbiadennhnokhaaGreatDoorZPr5
import Derived.Handy
import Derived.BigQuiet
import Derived.Deep.RegionHeld3
import Derived.Deep.Cut
namespace Go.Proofs.YtbiadennhnokhaaGreatDoor
open Go.RowKit
set_option linter.unusedSimpArgs false

set_option maxHeartbeats 800000 in
set_option maxRecDepth 100000 in
theorem rf_Ints (v u : Value) (l m : List Int) (w : World) (hs : SlR w v l.length (ints l)) (ht : SlR w u m.length (ints m)) :
    Calls Tryz.prog 22 #[v, u] w fun e w' => e = .returned (.bool (decide (l = m))) ∧ Below w.heap.size w w' := by
  obtain ⟨a, cap, rfl, hc, hm⟩ := hs.shape
  obtain ⟨a2, cap2, rfl, hc2, hm2⟩ := ht.shape
  unfold maxLen at hm hm2
  have HS := Lib.hid hs
  have HT := Lib.hid ht
  clear hs ht
  by_cases hne : l.length ≠ m.length
  · have E := Lib.hid (show decide (l = m) = false by rw [decide_eq_false_iff_not]; intro h; exact hne (by rw [h]))
    have hb : ((l.length : Int) != (m.length : Int)) = true := by rw [bne_iff_ne]; omega
    clear hne
    go_enter Tryz.func22, Tryz.ntmps22
    go_wp2_with fail
    go_ret
    exact ⟨ret_bool E.out.symm, Below.refl _ _⟩
  have hlen : l.length = m.length := by omega
  have hb : ((l.length : Int) != (m.length : Int)) = false := by rw [hlen]; simp
  clear hne
  go_enter Tryz.func22, Tryz.ntmps22
  go_wp2_with fail
  go_loopw [5] (fun i wr => ∃ (j : Nat), j ≤ l.length ∧ i = .int .i64 j ∧ l.take j = m.take j ∧ Below w.heap.size w wr)
    (fun i _ => l.length - (intOf i).toNat)
  case atStart => exact ⟨0, Nat.zero_le _, rfl, rfl, Below.refl _ _⟩
  case round =>
    obtain ⟨j, hj, rfl, hgo, hbw⟩ := hrel
    have HGO := Lib.hid hgo
    have HB := Lib.hid hbw
    clear hgo hbw
    by_cases hlt : j < l.length
    · have hlt2 : j < m.length := by omega
      obtain ⟨b, o, c', hv, -, -, hcell⟩ := (HS.out.below HB.out).at (by omega)
      injection hv with e1 e2 e3
      subst e1
      clear e2 e3
      obtain ⟨b2, o2, c2', hv2, -, -, hcell2⟩ := (HT.out.below HB.out).at (by omega)
      injection hv2 with e1 e2 e3
      subst e1
      clear e2 e3
      have d0 := hcell j (.int .i64 l[j]) (by simp [ints, hlt])
      have g0 := hcell2 j (.int .i64 m[j]) (by simp [ints, hlt2])
      clear hcell hcell2
      have hw : IntKind.i64.wrap ((j : Int) + 1) = (j : Int) + 1 := IntWalk.i64_in _ (by omega)
      by_cases he : l[j] = m[j]
      · have HGO2 : Hid (l.take (j + 1) = m.take (j + 1)) := Lib.hid (by rw [List.take_succ_eq_append_getElem hlt, List.take_succ_eq_append_getElem hlt2, HGO.out, he])
        rw [← he] at g0
        generalize l[j] = c at d0 g0
        clear he
        go_wp2_with fail
        go_quiet (fail)
        go_wp2_with fail
        go_roundw
        case rel => exact ⟨j + 1, by omega, by go_num, HGO2.out, below_drewN HB.out _⟩
        case measure => simp [intOf]; omega
      · have E2 := Lib.hid (show decide (l = m) = false by rw [decide_eq_false_iff_not]; intro h; subst h; exact he rfl)
        have htb : (l[j] != m[j]) = true := by rw [bne_iff_ne]; exact he
        generalize l[j] = c at d0 htb
        generalize m[j] = c' at g0 htb
        clear he
        go_wp2_with fail
        go_quiet (fail)
        go_wp2_with fail
        go_ret
        exact ⟨ret_bool E2.out.symm, below_drewN HB.out _⟩
    · obtain rfl : j = l.length := by omega
      have E2 := Lib.hid (show decide (l = m) = true by rw [decide_eq_true_iff]; have := HGO.out; rwa [List.take_length, hlen, List.take_length] at this)
      go_wp2_with fail
      go_ret
      exact ⟨ret_bool E2.out.symm, HB.out⟩
theorem inP_drop {P : List Gp} {n : Int} {j : Nat} (h : j < P.length) : inP (P.drop j) n = ((decide (P[j].1 ≤ n) && decide (n < P[j].2)) || inP (P.drop (j + 1)) n) := by
  rw [List.drop_eq_getElem_cons h]
  rfl
set_option maxHeartbeats 800000 in
set_option maxRecDepth 100000 in
theorem rf_Off (v : Value) (P : List Gp) (n : Int) (w : World) (hs : SlR w v P.length (gps P)) :
    Calls Tryz.prog 26 #[v, .int .i64 n] w fun e w' => e = .returned (.bool (inP P n)) ∧ Below w.heap.size w w' := by
  obtain ⟨a, cap, rfl, hc, hm⟩ := hs.shape
  unfold maxLen at hm
  have HS := Lib.hid hs
  clear hs
  go_enter Tryz.func26, Tryz.ntmps26
  go_wp2_with fail
  go_loopw [5] (fun i wr => ∃ (j : Nat), j ≤ P.length ∧ i = .int .i64 j ∧ inP (P.drop j) n = inP P n ∧ wr = w)
    (fun i _ => P.length - (intOf i).toNat)
  case atStart => exact ⟨0, Nat.zero_le _, rfl, rfl, rfl⟩
  case round =>
    obtain ⟨j, hj, rfl, hgo, rfl⟩ := hrel
    have HGO := Lib.hid hgo
    clear hgo
    by_cases hlt : j < P.length
    · obtain ⟨b, o, rfl, hcell⟩ := HS.out.gps hlt
      have HIN := Lib.hid ((inP_drop (n := n) hlt).symm.trans HGO.out)
      generalize P[j] = x at hcell HIN
      obtain ⟨ga, gb⟩ := x
      have d0 : wr.cell? ⟨b, o + j * 2, none⟩ = some (.int .i64 ga) := hcell 0 _ rfl
      have d1 : wr.cell? ⟨b, o + j * 2 + 1, none⟩ = some (.int .i64 gb) := hcell 1 _ rfl
      have hw : IntKind.i64.wrap ((j : Int) + 1) = (j : Int) + 1 := IntWalk.i64_in _ (by omega)
      clear hcell
      by_cases h1 : ga ≤ n
      · have b1 : decide (ga ≤ n) = true := by simpa using h1
        by_cases h2 : n < gb
        · have b2 : decide (n < gb) = true := by simpa using h2
          have HR := Lib.hid (show true = inP P n by rw [← HIN.out]; dsimp only; rw [b1, b2]; rfl)
          go_wp2_with fail
          go_ret
          exact ⟨ret_bool HR.out, Below.refl _ _⟩
        · have b2 : decide (n < gb) = false := by simpa using h2
          have HR := Lib.hid (show inP (P.drop (j + 1)) n = inP P n by rw [← HIN.out]; dsimp only; rw [b1, b2]; rfl)
          go_wp2_with fail
          go_roundw
          case rel => exact ⟨j + 1, by omega, by go_num, HR.out, by first | trivial | rfl⟩
          case measure => simp [intOf]; omega
      · have b1 : decide (ga ≤ n) = false := by simpa using h1
        have HR := Lib.hid (show inP (P.drop (j + 1)) n = inP P n by rw [← HIN.out]; dsimp only; rw [b1]; rfl)
        go_wp2_with fail
        go_roundw
        case rel => exact ⟨j + 1, by omega, by go_num, HR.out, by first | trivial | rfl⟩
        case measure => simp [intOf]; omega
    · obtain rfl : j = P.length := by omega
      have HR := Lib.hid (show false = inP P n by rw [← HGO.out, List.drop_length]; rfl)
      go_wp2_with fail
      go_ret
      exact ⟨ret_bool HR.out, Below.refl _ _⟩
/-! parts of numbers -/
theorem ints_len (l : List Int) : (ints l).length = l.length := by simp [ints]
theorem ints_app (l m : List Int) : ints (l ++ m) = ints l ++ ints m := by simp [ints]
theorem ints_one (l : List Int) : ∀ u ∈ ints l, u.oneCell' = true := fun u hu => by
  obtain ⟨x, -, rfl⟩ := List.mem_map.1 hu
  rfl
theorem isub {w : World} {a : Option Addr} {cap : Nat} {l : List Int} (h : SlR w (.slice a l.length cap) l.length (ints l)) (i j : Nat) (hij : i ≤ j) (hj : j ≤ l.length) :
    SlR w (.slice (if cap = i then a else a.map (·.add (i * 1))) ((l.take j).drop i).length (cap - i)) ((l.take j).drop i).length (ints ((l.take j).drop i)) := by
  obtain ⟨a', cap', hv, h1, h2, h3, h4⟩ := h
  injection hv with e1 _ e3
  subst e1 e3
  have hl : ((l.take j).drop i).length = j - i := by simp; omega
  refine ⟨_, _, rfl, by omega, by omega, fun h => ?_, fun hn => ?_⟩
  · by_cases hc : cap = i
    · omega
    · rw [if_neg hc] at h
      have := h3 (by simpa using h)
      omega
  · obtain ⟨b, o, rfl, hc⟩ := h4 (by omega)
    refine ⟨b, o + i * 1, by rw [if_neg (by omega)]; show some ((⟨b, o, none⟩ : Addr).add (i * 1)) = _; rw [addr_add], fun x u hx => ?_⟩
    have hx' := (List.getElem?_eq_some_iff.1 hx).1
    have := hc (i + x) u (by
      unfold ints at hx ⊢
      rw [List.getElem?_map] at hx ⊢
      rw [List.getElem?_drop, List.getElem?_take] at hx
      rw [ints_len, hl] at hx'
      rw [if_pos (by omega)] at hx
      exact hx)
    rw [Nat.mul_one, Nat.add_assoc]
    exact this
theorem int_size (w : World) : (Go.sizeOf 3).run Tryz.prog w = .ok 1 w := by kernel_rfl
theorem itail (a : Option Addr) (cap : Nat) (l : List Int) (i : Nat) (hi : i ≤ l.length) :
    ∃ ad c, (∀ w, (Instr.slice 38 (.slice a l.length cap) (some (.int .i64 (i : Int))) none none).run Tryz.prog w = .ok (.slice ad (l.drop i).length c) w) ∧
      ∀ W, SlR W (.slice a l.length cap) l.length (ints l) → SlR W (.slice ad (l.drop i).length c) (l.drop i).length (ints (l.drop i)) := by
  refine ⟨if cap = i then a else a.map (·.add (i * 1)), cap - i, fun w => ?_, fun W h => ?_⟩
  · have ht : Tryz.prog.underlying 38 = some (.slice 3) := Tryz.underlying38
    have ht' : Tryz.prog.underlying 38 = some (.slice (Tryz.prog.elem 38)) := by simp [Program.elem, ht]
    have he : Tryz.prog.elem 38 = 3 := by simp [Program.elem, ht]
    rw [run_slice_l w 38 a l.length cap ht' .i64 _ (by omega) (by omega), he, int_size]
    simp only [Result.andThen, sliced, List.length_drop, Int.toNat_natCast]
  · have := isub h i l.length hi (Nat.le_refl _)
    rw [List.take_length] at this
    exact this
theorem ihead (a : Option Addr) (cap : Nat) (l : List Int) (i : Nat) (hi : i ≤ l.length) (hc : l.length ≤ cap) :
    ∃ ad c, (∀ w, (Instr.slice 38 (.slice a l.length cap) none (some (.int .i64 (i : Int))) none).run Tryz.prog w = .ok (.slice ad (l.take i).length c) w) ∧
      ∀ W, SlR W (.slice a l.length cap) l.length (ints l) → SlR W (.slice ad (l.take i).length c) (l.take i).length (ints (l.take i)) := by
  refine ⟨if cap = 0 then a else a.map (·.add (0 * 1)), cap - 0, fun w => ?_, fun W h => ?_⟩
  · have ht : Tryz.prog.underlying 38 = some (.slice 3) := Tryz.underlying38
    have ht' : Tryz.prog.underlying 38 = some (.slice (Tryz.prog.elem 38)) := by simp [Program.elem, ht]
    have he : Tryz.prog.elem 38 = 3 := by simp [Program.elem, ht]
    rw [run_slice_h w 38 a l.length cap ht' .i64 _ (by omega) (by omega), he, int_size]
    simp only [Result.andThen, sliced, List.length_take, Int.toNat_natCast, Nat.sub_zero, Nat.min_eq_left hi]
  · have := isub h 0 i (Nat.zero_le _) hi
    simpa only [List.drop_zero] using this
theorem own_one (W : World) (n : Int) : (W.alloc (.cells #[.int .i64 n] 3)).ownsRow W.heap.size 3 1 (.slice (some ⟨W.heap.size, 0, none⟩) 1 1) 1 (ints [n]) :=
  ⟨rfl, .inr ⟨W.heap.size, 1, #[.int .i64 n], rfl, Nat.le_refl _, heap_alloc_new W _, Nat.le_refl _, by decide, rfl, rfl⟩⟩
set_option maxHeartbeats 1600000 in
set_option maxRecDepth 100000 in
theorem rf_insert (v : Value) (l : List Int) (n : Int) (w : World) (hs : SlR w v l.length (ints l)) (hl : l.Pairwise (· < ·)) (hlm : l.length ≤ 100000) :
    Calls Tryz.prog 79 #[v, .int .i64 n] w fun e w' => ∃ v', e = .returned v' ∧ SlR w' v' (insT l n).length (ints (insT l n)) ∧ Below w.heap.size w w' := by
  obtain ⟨a, cap, rfl, hc, hm⟩ := hs.shape
  unfold maxLen at hm
  have HS := Lib.hid hs
  have HL := Lib.hid hl
  clear hs hl
  go_enter Tryz.func79, Tryz.ntmps79
  go_wp2_with fail
  go_loopw [5] (fun i wr => ∃ (k : Nat), k ≤ l.length ∧ i = .int .i64 k ∧ (∀ h : k < l.length, n ≤ l[k]) ∧ wr = w)
    (fun i _ => (intOf i).toNat)
  case atStart => exact ⟨l.length, Nat.le_refl _, rfl, fun h => absurd h (Nat.lt_irrefl _), rfl⟩
  case round =>
    obtain ⟨k, hk, rfl, hge, rfl⟩ := hrel
    have HGE := Lib.hid hge
    clear hge
    by_cases hk0 : 0 < k
    · obtain ⟨j, hjk⟩ : ∃ j, k = j + 1 := ⟨k - 1, by omega⟩
      obtain ⟨b, o, c', hv, -, -, hcell⟩ := HS.out.at (show 0 < l.length by omega)
      injection hv with e1 e2 e3
      clear e2 e3
      have hw : IntKind.i64.wrap ((k : Int) - 1) = (j : Int) := by rw [show ((k : Int) - 1) = (j : Int) by omega]; exact IntWalk.i64_in _ (by omega)
      have hj0 : (0 : Int) ≤ (j : Int) := by omega
      have hjl : (j : Int) < (l.length : Int) := by omega
      have hjl2 : j < l.length := by omega
      have d0 := hcell j (.int .i64 l[j]) (by simp [ints, hjl2])
      by_cases hx : n ≤ l[j]
      · have b1 : decide (n ≤ l[j]) = true := by simpa using hx
        have HX := Lib.hid (show ∀ h : j < l.length, n ≤ l[j] from fun _ => hx)
        have hjm : j ≤ l.length := by omega
        have HJ := Lib.hid hjk
        generalize l[j] = y at d0 b1
        subst e1
        clear hx hcell hjk
        go_wp2_with fail
        go_roundw
        case rel => exact ⟨j, hjm, by go_num, HX.out, by first | trivial | rfl⟩
        case measure => have := HJ.out; simp [intOf]; omega
      · have b1 : decide (n ≤ l[j]) = false := by simpa using hx
        have HIN := insT_take HL.out (n := n) hk (fun _ => by have := hx; subst hjk; simp only [Nat.add_sub_cancel]; omega) HGE.out
        generalize l[j] = y at d0 b1
        clear hx hjk
        by_cases hkl : k < l.length
        · have e0 := hcell k (.int .i64 l[k]) (by simp [ints, hkl])
          have hq : l.getD k 0 = l[k] := by simp [List.getD, List.getElem?_eq_getElem hkl]
          rw [hq] at HIN
          by_cases hz : l[k] = n
          · rw [if_pos ⟨hkl, hz⟩] at HIN
            rw [hz] at e0
            have HR := Lib.hid HIN
            subst e1
            clear HIN hz hq hcell
            go_wp2_with fail
            go_ret
            exact ⟨_, rfl, by rw [HR.out]; exact HS.out, Below.refl _ _⟩
          · rw [if_neg (fun h => hz h.2)] at HIN
            have bz : (l[k] == n) = false := by rw [beq_eq_false_iff_ne]; exact hz
            generalize l[k] = z at e0 bz
            have HIN := Lib.hid HIN
            have hkl2 : (k : Int) < (l.length : Int) := by omega
            clear hz hq hcell
            subst e1
            obtain ⟨i0, hi, iz0, iz1, iz2⟩ := info_parts (P := Tryz.prog) int_info
            obtain ⟨ah, ch, hrh, hsh⟩ := ihead (some ⟨b, o, none⟩) cap l k hk hc
            obtain ⟨at_, ct, hrt, hst⟩ := itail (some ⟨b, o, none⟩) cap l k hk
            have hTl : (l.take k).length ≤ 100000 := by rw [List.length_take]; omega
            have hDl : (l.drop k).length ≤ 100000 := by rw [List.length_drop]; omega
            generalize l.take k = T at *
            generalize l.drop k = D at *
            have HSH := Lib.hid hsh
            have HST := Lib.hid hst
            have HR1 := Lib.hid (World.ownsRow_made wr #[] 0 (Nat.le_refl _) (Nat.zero_le _) rfl : (wr.alloc (.cells #[] 3)).ownsRow wr.heap.size 3 1 (.slice (some ⟨wr.heap.size, 0, none⟩) 0 0) 0 [])
            have HW1 := Lib.hid ((Below.refl wr.heap.size wr).alloc (Nat.le_refl _) (.cells #[] 3))
            have HR2 := Lib.hid (World.ownsRow.alloc HR1.out (.cells #[.int .i64 n] 3))
            have HW2 := Lib.hid (HW1.out.alloc HW1.out.size (.cells #[.int .i64 n] 3))
            have HX2 := Lib.hid (show ((wr.alloc (.cells #[] 3)).alloc (.cells #[.int .i64 n] 3)).ownsRow wr.heap.size 3 1 (.slice (some ⟨wr.heap.size + 1, 0, none⟩) 1 1) 1 (ints [n]) from by
              have h := own_one (wr.alloc (.cells #[] 3)) n
              simp only [World.size_alloc] at h
              exact ownsRow_base h (by omega))
            have HW3 := Lib.hid (((Below.refl wr.heap.size wr).alloc (Nat.le_refl _) (.cells #[.int .i64 n] 3)).alloc (by simp) (.cells #[] 3))
            have HR3 := Lib.hid (show ((wr.alloc (.cells #[.int .i64 n] 3)).alloc (.cells #[] 3)).ownsRow wr.heap.size 3 1 (.slice (some ⟨wr.heap.size + 1, 0, none⟩) 0 0) 0 [] from by
              have h : ((wr.alloc (.cells #[.int .i64 n] 3)).alloc (.cells #[] 3)).ownsRow (wr.alloc (.cells #[.int .i64 n] 3)).heap.size 3 1 (.slice (some ⟨(wr.alloc (.cells #[.int .i64 n] 3)).heap.size, 0, none⟩) 0 0) 0 [] := World.ownsRow_made (wr.alloc (.cells #[.int .i64 n] 3)) #[] 0 (Nat.le_refl _) (Nat.zero_le _) rfl
              simp only [World.size_alloc] at h
              exact ownsRow_base h (by omega))
            have HX3 := Lib.hid (show ((wr.alloc (.cells #[.int .i64 n] 3)).alloc (.cells #[] 3)).ownsRow wr.heap.size 3 1 (.slice (some ⟨wr.heap.size, 0, none⟩) 1 1) 1 (ints [n]) from (own_one wr n).alloc _)
            clear hsh hst
            go_upto_region 6 with fail
            go_region_held3 (fun w' => True) (first | trivial | go_keep)
              (first
                | ((refine step_append_sl _ (by rfl) _ _ _ (by rfl) wr.heap.size 3 i0 (.int .i64 0) 1 8 Tryz.underlying38 hi iz0 iz1 iz2 rfl (by decide) (.slice (some ⟨wr.heap.size, 0, none⟩) 0 0) 0 [] (by rfl) (by exact HR1.out.drew)
                     _ T.length _ (ints T) (by rfl) (by exact HSH.out _ (HS.out.below HW1.out.drew)) (by rw [ints_len, Nat.mul_one]) (ints_one _) (by unfold maxLen; omega) (by omega) (by exact HW1.out.drew.size) ?_); intro a9 c9 w9 ho9 hg9; have HB9 := Lib.hid (HW1.out.drew.grown hg9 HW1.out.drew.size (fun q hq => (HR1.out.lt q hq).1)); have hsz9 := HB9.out.size; have HO9 := Lib.hid (show w9.ownsRow wr.heap.size 3 1 (.slice a9 T.length c9) T.length (ints T) by simpa using ho9); have hpathA : True := trivial; clear ho9 hg9)
                | ((refine step_append_sl _ (by rfl) _ _ _ (by rfl) wr.heap.size 3 i0 (.int .i64 0) 1 8 Tryz.underlying38 hi iz0 iz1 iz2 rfl (by decide) (.slice (some ⟨wr.heap.size, 0, none⟩) 0 0) 0 [] (by rfl) (by exact HR2.out.drew)
                     _ T.length _ (ints T) (by rfl) (by exact HSH.out _ (HS.out.below HW2.out.drew)) (by rw [ints_len, Nat.mul_one]) (ints_one _) (by unfold maxLen; omega) (by omega) (by exact HW2.out.drew.size) ?_); intro a9 c9 w9 ho9 hg9; have HB9 := Lib.hid (HW2.out.drew.grown hg9 HW2.out.drew.size (fun q hq => (HR2.out.lt q hq).1)); have hsz9 := HB9.out.size; have HO9 := Lib.hid (show w9.ownsRow wr.heap.size 3 1 (.slice a9 T.length c9) T.length (ints T) by simpa using ho9); have HX9 := Lib.hid (HX2.out.drew.kept hg9 (.inr (by simp [Value.ownBlock]))); clear ho9 hg9)
                | ((refine step_append_sl _ (by rfl) _ _ _ (by rfl) wr.heap.size 3 i0 (.int .i64 0) 1 8 Tryz.underlying38 hi iz0 iz1 iz2 rfl (by decide) (.slice (some ⟨wr.heap.size + 1, 0, none⟩) 0 0) 0 [] (by rfl) (by exact HR3.out.drew)
                     _ T.length _ (ints T) (by rfl) (by exact HSH.out _ (HS.out.below HW3.out.drew)) (by rw [ints_len, Nat.mul_one]) (ints_one _) (by unfold maxLen; omega) (by omega) (by exact HW3.out.drew.size) ?_); intro a9 c9 w9 ho9 hg9; have HB9 := Lib.hid (HW3.out.drew.grown hg9 HW3.out.drew.size (fun q hq => (HR3.out.lt q hq).1)); have hsz9 := HB9.out.size; have HO9 := Lib.hid (show w9.ownsRow wr.heap.size 3 1 (.slice a9 T.length c9) T.length (ints T) by simpa using ho9); have HX9 := Lib.hid (HX3.out.drew.kept hg9 (.inr (by simp [Value.ownBlock]))); clear ho9 hg9)
                | ((refine step_append_sl _ (by rfl) _ _ _ (by rfl) wr.heap.size 3 i0 (.int .i64 0) 1 8 Tryz.underlying38 hi iz0 iz1 iz2 rfl (by decide) (.slice a9 T.length c9) T.length (ints T) (by rfl) (by exact HO9.out.alloc _)
                     _ 1 _ (ints [n]) (by rfl) (by exact SlR.of_own (own_one w9 n)) (by rfl) (ints_one _) (by unfold maxLen; omega) (by omega) (by simp; omega) ?_); have hpA := hpathA; intro a10 c10 w10 ho10 hg10; have HB10 := Lib.hid ((HB9.out.alloc HB9.out.size (.cells #[.int .i64 n] 3)).grown hg10 (by simp; omega) (fun q hq => (HO9.out.lt q hq).1)); have hsz10 := HB10.out.size; have HO10 := Lib.hid ho10; clear ho10 hg10)
                | ((refine step_append_sl _ (by rfl) _ _ _ (by rfl) wr.heap.size 3 i0 (.int .i64 0) 1 8 Tryz.underlying38 hi iz0 iz1 iz2 rfl (by decide) (.slice a9 (0 + T.length) c9) T.length (ints T) (by rfl) (by simpa using HO9.out)
                     _ 1 _ (ints [n]) (by rfl) (by exact SlR.of_own HX9.out) (by rfl) (ints_one _) (by unfold maxLen; omega) (by omega) (by omega) ?_); intro a10 c10 w10 ho10 hg10; have HB10 := Lib.hid (HB9.out.grown hg10 (by omega) (fun q hq => (HO9.out.lt q (by simpa [Value.ownBlock] using hq)).1)); have hsz10 := HB10.out.size; have HO10 := Lib.hid ho10; clear ho10 hg10)
                | ((refine step_append_sl _ (by rfl) _ _ _ (by rfl) wr.heap.size 3 i0 (.int .i64 0) 1 8 Tryz.underlying38 hi iz0 iz1 iz2 rfl (by decide) (.slice a10 (T.length + 1) c10) (T.length + 1) (ints T ++ ints [n]) (by rfl) (by exact HO10.out)
                     _ D.length _ (ints D) (by rfl) (by exact HST.out _ (HS.out.below HB10.out)) (by rw [ints_len, Nat.mul_one]) (ints_one _) (by unfold maxLen; omega) (by omega) (by omega) ?_); intro a11 c11 w11 ho11 hg11; have HB11 := Lib.hid (HB10.out.grown hg11 (by omega) (fun q hq => (HO10.out.lt q hq).1)); have HO11 := Lib.hid ho11; clear ho11 hg11)
                | fail "no arm")
            all_goals
              go_wp2_with fail
              go_ret
              have h11 := SlR.of_own HO11.out
              have e1 : (T ++ n :: D).length = T.length + 1 + D.length := by simp; omega
              have h12 : SlR w11 (.slice a11 (T.length + 1 + D.length) c11) (T ++ n :: D).length (ints (T ++ n :: D)) := by
                rw [e1, show T ++ n :: D = (T ++ [n]) ++ D by simp, ints_app, ints_app]
                exact h11
              refine ⟨_, rfl, ?_, HB11.out⟩
              first
                | (rw [HIN.out]; exact h12)
                | exact h12
                | simpa using h12
        · rw [if_neg (fun h => hkl h.1)] at HIN
          have HIN := Lib.hid HIN
          have hkl2 : ¬ (k : Int) < (l.length : Int) := by omega
          clear hcell
          subst e1
          obtain ⟨i0, hi, iz0, iz1, iz2⟩ := info_parts (P := Tryz.prog) int_info
          obtain ⟨ah, ch, hrh, hsh⟩ := ihead (some ⟨b, o, none⟩) cap l k hk hc
          obtain ⟨at_, ct, hrt, hst⟩ := itail (some ⟨b, o, none⟩) cap l k hk
          have hTl : (l.take k).length ≤ 100000 := by rw [List.length_take]; omega
          have hDl : (l.drop k).length ≤ 100000 := by rw [List.length_drop]; omega
          generalize l.take k = T at *
          generalize l.drop k = D at *
          have HSH := Lib.hid hsh
          have HST := Lib.hid hst
          have HR1 := Lib.hid (World.ownsRow_made wr #[] 0 (Nat.le_refl _) (Nat.zero_le _) rfl : (wr.alloc (.cells #[] 3)).ownsRow wr.heap.size 3 1 (.slice (some ⟨wr.heap.size, 0, none⟩) 0 0) 0 [])
          have HW1 := Lib.hid ((Below.refl wr.heap.size wr).alloc (Nat.le_refl _) (.cells #[] 3))
          have HR2 := Lib.hid (World.ownsRow.alloc HR1.out (.cells #[.int .i64 n] 3))
          have HW2 := Lib.hid (HW1.out.alloc HW1.out.size (.cells #[.int .i64 n] 3))
          have HX2 := Lib.hid (show ((wr.alloc (.cells #[] 3)).alloc (.cells #[.int .i64 n] 3)).ownsRow wr.heap.size 3 1 (.slice (some ⟨wr.heap.size + 1, 0, none⟩) 1 1) 1 (ints [n]) from by
            have h := own_one (wr.alloc (.cells #[] 3)) n
            simp only [World.size_alloc] at h
            exact ownsRow_base h (by omega))
          have HW3 := Lib.hid (((Below.refl wr.heap.size wr).alloc (Nat.le_refl _) (.cells #[.int .i64 n] 3)).alloc (by simp) (.cells #[] 3))
          have HR3 := Lib.hid (show ((wr.alloc (.cells #[.int .i64 n] 3)).alloc (.cells #[] 3)).ownsRow wr.heap.size 3 1 (.slice (some ⟨wr.heap.size + 1, 0, none⟩) 0 0) 0 [] from by
            have h : ((wr.alloc (.cells #[.int .i64 n] 3)).alloc (.cells #[] 3)).ownsRow (wr.alloc (.cells #[.int .i64 n] 3)).heap.size 3 1 (.slice (some ⟨(wr.alloc (.cells #[.int .i64 n] 3)).heap.size, 0, none⟩) 0 0) 0 [] := World.ownsRow_made (wr.alloc (.cells #[.int .i64 n] 3)) #[] 0 (Nat.le_refl _) (Nat.zero_le _) rfl
            simp only [World.size_alloc] at h
            exact ownsRow_base h (by omega))
          have HX3 := Lib.hid (show ((wr.alloc (.cells #[.int .i64 n] 3)).alloc (.cells #[] 3)).ownsRow wr.heap.size 3 1 (.slice (some ⟨wr.heap.size, 0, none⟩) 1 1) 1 (ints [n]) from (own_one wr n).alloc _)
          clear hsh hst
          go_upto_region 6 with fail
          go_region_held3 (fun w' => True) (first | trivial | go_keep)
            (first
              | ((refine step_append_sl _ (by rfl) _ _ _ (by rfl) wr.heap.size 3 i0 (.int .i64 0) 1 8 Tryz.underlying38 hi iz0 iz1 iz2 rfl (by decide) (.slice (some ⟨wr.heap.size, 0, none⟩) 0 0) 0 [] (by rfl) (by exact HR1.out.drew)
                   _ T.length _ (ints T) (by rfl) (by exact HSH.out _ (HS.out.below HW1.out.drew)) (by rw [ints_len, Nat.mul_one]) (ints_one _) (by unfold maxLen; omega) (by omega) (by exact HW1.out.drew.size) ?_); intro a9 c9 w9 ho9 hg9; have HB9 := Lib.hid (HW1.out.drew.grown hg9 HW1.out.drew.size (fun q hq => (HR1.out.lt q hq).1)); have hsz9 := HB9.out.size; have HO9 := Lib.hid (show w9.ownsRow wr.heap.size 3 1 (.slice a9 T.length c9) T.length (ints T) by simpa using ho9); have hpathA : True := trivial; clear ho9 hg9)
              | ((refine step_append_sl _ (by rfl) _ _ _ (by rfl) wr.heap.size 3 i0 (.int .i64 0) 1 8 Tryz.underlying38 hi iz0 iz1 iz2 rfl (by decide) (.slice (some ⟨wr.heap.size, 0, none⟩) 0 0) 0 [] (by rfl) (by exact HR2.out.drew)
                   _ T.length _ (ints T) (by rfl) (by exact HSH.out _ (HS.out.below HW2.out.drew)) (by rw [ints_len, Nat.mul_one]) (ints_one _) (by unfold maxLen; omega) (by omega) (by exact HW2.out.drew.size) ?_); intro a9 c9 w9 ho9 hg9; have HB9 := Lib.hid (HW2.out.drew.grown hg9 HW2.out.drew.size (fun q hq => (HR2.out.lt q hq).1)); have hsz9 := HB9.out.size; have HO9 := Lib.hid (show w9.ownsRow wr.heap.size 3 1 (.slice a9 T.length c9) T.length (ints T) by simpa using ho9); have HX9 := Lib.hid (HX2.out.drew.kept hg9 (.inr (by simp [Value.ownBlock]))); clear ho9 hg9)
              | ((refine step_append_sl _ (by rfl) _ _ _ (by rfl) wr.heap.size 3 i0 (.int .i64 0) 1 8 Tryz.underlying38 hi iz0 iz1 iz2 rfl (by decide) (.slice (some ⟨wr.heap.size + 1, 0, none⟩) 0 0) 0 [] (by rfl) (by exact HR3.out.drew)
                   _ T.length _ (ints T) (by rfl) (by exact HSH.out _ (HS.out.below HW3.out.drew)) (by rw [ints_len, Nat.mul_one]) (ints_one _) (by unfold maxLen; omega) (by omega) (by exact HW3.out.drew.size) ?_); intro a9 c9 w9 ho9 hg9; have HB9 := Lib.hid (HW3.out.drew.grown hg9 HW3.out.drew.size (fun q hq => (HR3.out.lt q hq).1)); have hsz9 := HB9.out.size; have HO9 := Lib.hid (show w9.ownsRow wr.heap.size 3 1 (.slice a9 T.length c9) T.length (ints T) by simpa using ho9); have HX9 := Lib.hid (HX3.out.drew.kept hg9 (.inr (by simp [Value.ownBlock]))); clear ho9 hg9)
              | ((refine step_append_sl _ (by rfl) _ _ _ (by rfl) wr.heap.size 3 i0 (.int .i64 0) 1 8 Tryz.underlying38 hi iz0 iz1 iz2 rfl (by decide) (.slice a9 T.length c9) T.length (ints T) (by rfl) (by exact HO9.out.alloc _)
                   _ 1 _ (ints [n]) (by rfl) (by exact SlR.of_own (own_one w9 n)) (by rfl) (ints_one _) (by unfold maxLen; omega) (by omega) (by simp; omega) ?_); have hpA := hpathA; intro a10 c10 w10 ho10 hg10; have HB10 := Lib.hid ((HB9.out.alloc HB9.out.size (.cells #[.int .i64 n] 3)).grown hg10 (by simp; omega) (fun q hq => (HO9.out.lt q hq).1)); have hsz10 := HB10.out.size; have HO10 := Lib.hid ho10; clear ho10 hg10)
              | ((refine step_append_sl _ (by rfl) _ _ _ (by rfl) wr.heap.size 3 i0 (.int .i64 0) 1 8 Tryz.underlying38 hi iz0 iz1 iz2 rfl (by decide) (.slice a9 (0 + T.length) c9) T.length (ints T) (by rfl) (by simpa using HO9.out)
                   _ 1 _ (ints [n]) (by rfl) (by exact SlR.of_own HX9.out) (by rfl) (ints_one _) (by unfold maxLen; omega) (by omega) (by omega) ?_); intro a10 c10 w10 ho10 hg10; have HB10 := Lib.hid (HB9.out.grown hg10 (by omega) (fun q hq => (HO9.out.lt q (by simpa [Value.ownBlock] using hq)).1)); have hsz10 := HB10.out.size; have HO10 := Lib.hid ho10; clear ho10 hg10)
              | ((refine step_append_sl _ (by rfl) _ _ _ (by rfl) wr.heap.size 3 i0 (.int .i64 0) 1 8 Tryz.underlying38 hi iz0 iz1 iz2 rfl (by decide) (.slice a10 (T.length + 1) c10) (T.length + 1) (ints T ++ ints [n]) (by rfl) (by exact HO10.out)
                   _ D.length _ (ints D) (by rfl) (by exact HST.out _ (HS.out.below HB10.out)) (by rw [ints_len, Nat.mul_one]) (ints_one _) (by unfold maxLen; omega) (by omega) (by omega) ?_); intro a11 c11 w11 ho11 hg11; have HB11 := Lib.hid (HB10.out.grown hg11 (by omega) (fun q hq => (HO10.out.lt q hq).1)); have HO11 := Lib.hid ho11; clear ho11 hg11)
              | fail "no arm")
          all_goals
            go_wp2_with fail
            go_ret
            have h11 := SlR.of_own HO11.out
            have e1 : (T ++ n :: D).length = T.length + 1 + D.length := by simp; omega
            have h12 : SlR w11 (.slice a11 (T.length + 1 + D.length) c11) (T ++ n :: D).length (ints (T ++ n :: D)) := by
              rw [e1, show T ++ n :: D = (T ++ [n]) ++ D by simp, ints_app, ints_app]
              exact h11
            refine ⟨_, rfl, ?_, HB11.out⟩
            first
              | (rw [HIN.out]; exact h12)
              | exact h12
              | simpa using h12
    · have HIN := insT_take HL.out (n := n) hk (fun h => absurd h hk0) HGE.out
      have hk00 : ¬ (0 : Int) < (k : Int) := by omega
      by_cases hkl : k < l.length
      · obtain ⟨b, o, c', hv, -, -, hcell⟩ := HS.out.at (show 0 < l.length by omega)
        injection hv with e1 e2 e3
        clear e2 e3
        have e0 := hcell k (.int .i64 l[k]) (by simp [ints, hkl])
        have hq : l.getD k 0 = l[k] := by simp [List.getD, List.getElem?_eq_getElem hkl]
        rw [hq] at HIN
        by_cases hz : l[k] = n
        · rw [if_pos ⟨hkl, hz⟩] at HIN
          rw [hz] at e0
          have HR := Lib.hid HIN
          subst e1
          clear HIN hz hq hcell
          go_wp2_with fail
          go_ret
          exact ⟨_, rfl, by rw [HR.out]; exact HS.out, Below.refl _ _⟩
        · rw [if_neg (fun h => hz h.2)] at HIN
          have bz : (l[k] == n) = false := by rw [beq_eq_false_iff_ne]; exact hz
          generalize l[k] = z at e0 bz
          have HIN := Lib.hid HIN
          have hkl2 : (k : Int) < (l.length : Int) := by omega
          clear hz hq hcell
          subst e1
          obtain ⟨i0, hi, iz0, iz1, iz2⟩ := info_parts (P := Tryz.prog) int_info
          obtain ⟨ah, ch, hrh, hsh⟩ := ihead (some ⟨b, o, none⟩) cap l k hk hc
          obtain ⟨at_, ct, hrt, hst⟩ := itail (some ⟨b, o, none⟩) cap l k hk
          have hTl : (l.take k).length ≤ 100000 := by rw [List.length_take]; omega
          have hDl : (l.drop k).length ≤ 100000 := by rw [List.length_drop]; omega
          generalize l.take k = T at *
          generalize l.drop k = D at *
          have HSH := Lib.hid hsh
          have HST := Lib.hid hst
          have HR1 := Lib.hid (World.ownsRow_made wr #[] 0 (Nat.le_refl _) (Nat.zero_le _) rfl : (wr.alloc (.cells #[] 3)).ownsRow wr.heap.size 3 1 (.slice (some ⟨wr.heap.size, 0, none⟩) 0 0) 0 [])
          have HW1 := Lib.hid ((Below.refl wr.heap.size wr).alloc (Nat.le_refl _) (.cells #[] 3))
          have HR2 := Lib.hid (World.ownsRow.alloc HR1.out (.cells #[.int .i64 n] 3))
          have HW2 := Lib.hid (HW1.out.alloc HW1.out.size (.cells #[.int .i64 n] 3))
          have HX2 := Lib.hid (show ((wr.alloc (.cells #[] 3)).alloc (.cells #[.int .i64 n] 3)).ownsRow wr.heap.size 3 1 (.slice (some ⟨wr.heap.size + 1, 0, none⟩) 1 1) 1 (ints [n]) from by
            have h := own_one (wr.alloc (.cells #[] 3)) n
            simp only [World.size_alloc] at h
            exact ownsRow_base h (by omega))
          have HW3 := Lib.hid (((Below.refl wr.heap.size wr).alloc (Nat.le_refl _) (.cells #[.int .i64 n] 3)).alloc (by simp) (.cells #[] 3))
          have HR3 := Lib.hid (show ((wr.alloc (.cells #[.int .i64 n] 3)).alloc (.cells #[] 3)).ownsRow wr.heap.size 3 1 (.slice (some ⟨wr.heap.size + 1, 0, none⟩) 0 0) 0 [] from by
            have h : ((wr.alloc (.cells #[.int .i64 n] 3)).alloc (.cells #[] 3)).ownsRow (wr.alloc (.cells #[.int .i64 n] 3)).heap.size 3 1 (.slice (some ⟨(wr.alloc (.cells #[.int .i64 n] 3)).heap.size, 0, none⟩) 0 0) 0 [] := World.ownsRow_made (wr.alloc (.cells #[.int .i64 n] 3)) #[] 0 (Nat.le_refl _) (Nat.zero_le _) rfl
            simp only [World.size_alloc] at h
            exact ownsRow_base h (by omega))
          have HX3 := Lib.hid (show ((wr.alloc (.cells #[.int .i64 n] 3)).alloc (.cells #[] 3)).ownsRow wr.heap.size 3 1 (.slice (some ⟨wr.heap.size, 0, none⟩) 1 1) 1 (ints [n]) from (own_one wr n).alloc _)
          clear hsh hst
          go_upto_region 6 with fail
          go_region_held3 (fun w' => True) (first | trivial | go_keep)
            (first
              | ((refine step_append_sl _ (by rfl) _ _ _ (by rfl) wr.heap.size 3 i0 (.int .i64 0) 1 8 Tryz.underlying38 hi iz0 iz1 iz2 rfl (by decide) (.slice (some ⟨wr.heap.size, 0, none⟩) 0 0) 0 [] (by rfl) (by exact HR1.out.drew)
                   _ T.length _ (ints T) (by rfl) (by exact HSH.out _ (HS.out.below HW1.out.drew)) (by rw [ints_len, Nat.mul_one]) (ints_one _) (by unfold maxLen; omega) (by omega) (by exact HW1.out.drew.size) ?_); intro a9 c9 w9 ho9 hg9; have HB9 := Lib.hid (HW1.out.drew.grown hg9 HW1.out.drew.size (fun q hq => (HR1.out.lt q hq).1)); have hsz9 := HB9.out.size; have HO9 := Lib.hid (show w9.ownsRow wr.heap.size 3 1 (.slice a9 T.length c9) T.length (ints T) by simpa using ho9); have hpathA : True := trivial; clear ho9 hg9)
              | ((refine step_append_sl _ (by rfl) _ _ _ (by rfl) wr.heap.size 3 i0 (.int .i64 0) 1 8 Tryz.underlying38 hi iz0 iz1 iz2 rfl (by decide) (.slice (some ⟨wr.heap.size, 0, none⟩) 0 0) 0 [] (by rfl) (by exact HR2.out.drew)
                   _ T.length _ (ints T) (by rfl) (by exact HSH.out _ (HS.out.below HW2.out.drew)) (by rw [ints_len, Nat.mul_one]) (ints_one _) (by unfold maxLen; omega) (by omega) (by exact HW2.out.drew.size) ?_); intro a9 c9 w9 ho9 hg9; have HB9 := Lib.hid (HW2.out.drew.grown hg9 HW2.out.drew.size (fun q hq => (HR2.out.lt q hq).1)); have hsz9 := HB9.out.size; have HO9 := Lib.hid (show w9.ownsRow wr.heap.size 3 1 (.slice a9 T.length c9) T.length (ints T) by simpa using ho9); have HX9 := Lib.hid (HX2.out.drew.kept hg9 (.inr (by simp [Value.ownBlock]))); clear ho9 hg9)
              | ((refine step_append_sl _ (by rfl) _ _ _ (by rfl) wr.heap.size 3 i0 (.int .i64 0) 1 8 Tryz.underlying38 hi iz0 iz1 iz2 rfl (by decide) (.slice (some ⟨wr.heap.size + 1, 0, none⟩) 0 0) 0 [] (by rfl) (by exact HR3.out.drew)
                   _ T.length _ (ints T) (by rfl) (by exact HSH.out _ (HS.out.below HW3.out.drew)) (by rw [ints_len, Nat.mul_one]) (ints_one _) (by unfold maxLen; omega) (by omega) (by exact HW3.out.drew.size) ?_); intro a9 c9 w9 ho9 hg9; have HB9 := Lib.hid (HW3.out.drew.grown hg9 HW3.out.drew.size (fun q hq => (HR3.out.lt q hq).1)); have hsz9 := HB9.out.size; have HO9 := Lib.hid (show w9.ownsRow wr.heap.size 3 1 (.slice a9 T.length c9) T.length (ints T) by simpa using ho9); have HX9 := Lib.hid (HX3.out.drew.kept hg9 (.inr (by simp [Value.ownBlock]))); clear ho9 hg9)
              | ((refine step_append_sl _ (by rfl) _ _ _ (by rfl) wr.heap.size 3 i0 (.int .i64 0) 1 8 Tryz.underlying38 hi iz0 iz1 iz2 rfl (by decide) (.slice a9 T.length c9) T.length (ints T) (by rfl) (by exact HO9.out.alloc _)
                   _ 1 _ (ints [n]) (by rfl) (by exact SlR.of_own (own_one w9 n)) (by rfl) (ints_one _) (by unfold maxLen; omega) (by omega) (by simp; omega) ?_); have hpA := hpathA; intro a10 c10 w10 ho10 hg10; have HB10 := Lib.hid ((HB9.out.alloc HB9.out.size (.cells #[.int .i64 n] 3)).grown hg10 (by simp; omega) (fun q hq => (HO9.out.lt q hq).1)); have hsz10 := HB10.out.size; have HO10 := Lib.hid ho10; clear ho10 hg10)
              | ((refine step_append_sl _ (by rfl) _ _ _ (by rfl) wr.heap.size 3 i0 (.int .i64 0) 1 8 Tryz.underlying38 hi iz0 iz1 iz2 rfl (by decide) (.slice a9 (0 + T.length) c9) T.length (ints T) (by rfl) (by simpa using HO9.out)
                   _ 1 _ (ints [n]) (by rfl) (by exact SlR.of_own HX9.out) (by rfl) (ints_one _) (by unfold maxLen; omega) (by omega) (by omega) ?_); intro a10 c10 w10 ho10 hg10; have HB10 := Lib.hid (HB9.out.grown hg10 (by omega) (fun q hq => (HO9.out.lt q (by simpa [Value.ownBlock] using hq)).1)); have hsz10 := HB10.out.size; have HO10 := Lib.hid ho10; clear ho10 hg10)
              | ((refine step_append_sl _ (by rfl) _ _ _ (by rfl) wr.heap.size 3 i0 (.int .i64 0) 1 8 Tryz.underlying38 hi iz0 iz1 iz2 rfl (by decide) (.slice a10 (T.length + 1) c10) (T.length + 1) (ints T ++ ints [n]) (by rfl) (by exact HO10.out)
                   _ D.length _ (ints D) (by rfl) (by exact HST.out _ (HS.out.below HB10.out)) (by rw [ints_len, Nat.mul_one]) (ints_one _) (by unfold maxLen; omega) (by omega) (by omega) ?_); intro a11 c11 w11 ho11 hg11; have HB11 := Lib.hid (HB10.out.grown hg11 (by omega) (fun q hq => (HO10.out.lt q hq).1)); have HO11 := Lib.hid ho11; clear ho11 hg11)
              | fail "no arm")
          all_goals
            go_wp2_with fail
            go_ret
            have h11 := SlR.of_own HO11.out
            have e1 : (T ++ n :: D).length = T.length + 1 + D.length := by simp; omega
            have h12 : SlR w11 (.slice a11 (T.length + 1 + D.length) c11) (T ++ n :: D).length (ints (T ++ n :: D)) := by
              rw [e1, show T ++ n :: D = (T ++ [n]) ++ D by simp, ints_app, ints_app]
              exact h11
            refine ⟨_, rfl, ?_, HB11.out⟩
            first
              | (rw [HIN.out]; exact h12)
              | exact h12
              | simpa using h12
      · rw [if_neg (fun h => hkl h.1)] at HIN
        have HIN := Lib.hid HIN
        have hkl2 : ¬ (k : Int) < (l.length : Int) := by omega
        obtain ⟨i0, hi, iz0, iz1, iz2⟩ := info_parts (P := Tryz.prog) int_info
        obtain ⟨ah, ch, hrh, hsh⟩ := ihead a cap l k hk hc
        obtain ⟨at_, ct, hrt, hst⟩ := itail a cap l k hk
        have hTl : (l.take k).length ≤ 100000 := by rw [List.length_take]; omega
        have hDl : (l.drop k).length ≤ 100000 := by rw [List.length_drop]; omega
        generalize l.take k = T at *
        generalize l.drop k = D at *
        have HSH := Lib.hid hsh
        have HST := Lib.hid hst
        have HR1 := Lib.hid (World.ownsRow_made wr #[] 0 (Nat.le_refl _) (Nat.zero_le _) rfl : (wr.alloc (.cells #[] 3)).ownsRow wr.heap.size 3 1 (.slice (some ⟨wr.heap.size, 0, none⟩) 0 0) 0 [])
        have HW1 := Lib.hid ((Below.refl wr.heap.size wr).alloc (Nat.le_refl _) (.cells #[] 3))
        have HR2 := Lib.hid (World.ownsRow.alloc HR1.out (.cells #[.int .i64 n] 3))
        have HW2 := Lib.hid (HW1.out.alloc HW1.out.size (.cells #[.int .i64 n] 3))
        have HX2 := Lib.hid (show ((wr.alloc (.cells #[] 3)).alloc (.cells #[.int .i64 n] 3)).ownsRow wr.heap.size 3 1 (.slice (some ⟨wr.heap.size + 1, 0, none⟩) 1 1) 1 (ints [n]) from by
          have h := own_one (wr.alloc (.cells #[] 3)) n
          simp only [World.size_alloc] at h
          exact ownsRow_base h (by omega))
        have HW3 := Lib.hid (((Below.refl wr.heap.size wr).alloc (Nat.le_refl _) (.cells #[.int .i64 n] 3)).alloc (by simp) (.cells #[] 3))
        have HR3 := Lib.hid (show ((wr.alloc (.cells #[.int .i64 n] 3)).alloc (.cells #[] 3)).ownsRow wr.heap.size 3 1 (.slice (some ⟨wr.heap.size + 1, 0, none⟩) 0 0) 0 [] from by
          have h : ((wr.alloc (.cells #[.int .i64 n] 3)).alloc (.cells #[] 3)).ownsRow (wr.alloc (.cells #[.int .i64 n] 3)).heap.size 3 1 (.slice (some ⟨(wr.alloc (.cells #[.int .i64 n] 3)).heap.size, 0, none⟩) 0 0) 0 [] := World.ownsRow_made (wr.alloc (.cells #[.int .i64 n] 3)) #[] 0 (Nat.le_refl _) (Nat.zero_le _) rfl
          simp only [World.size_alloc] at h
          exact ownsRow_base h (by omega))
        have HX3 := Lib.hid (show ((wr.alloc (.cells #[.int .i64 n] 3)).alloc (.cells #[] 3)).ownsRow wr.heap.size 3 1 (.slice (some ⟨wr.heap.size, 0, none⟩) 1 1) 1 (ints [n]) from (own_one wr n).alloc _)
        clear hsh hst
        go_upto_region 6 with fail
        go_region_held3 (fun w' => True) (first | trivial | go_keep)
          (first
            | ((refine step_append_sl _ (by rfl) _ _ _ (by rfl) wr.heap.size 3 i0 (.int .i64 0) 1 8 Tryz.underlying38 hi iz0 iz1 iz2 rfl (by decide) (.slice (some ⟨wr.heap.size, 0, none⟩) 0 0) 0 [] (by rfl) (by exact HR1.out.drew)
                 _ T.length _ (ints T) (by rfl) (by exact HSH.out _ (HS.out.below HW1.out.drew)) (by rw [ints_len, Nat.mul_one]) (ints_one _) (by unfold maxLen; omega) (by omega) (by exact HW1.out.drew.size) ?_); intro a9 c9 w9 ho9 hg9; have HB9 := Lib.hid (HW1.out.drew.grown hg9 HW1.out.drew.size (fun q hq => (HR1.out.lt q hq).1)); have hsz9 := HB9.out.size; have HO9 := Lib.hid (show w9.ownsRow wr.heap.size 3 1 (.slice a9 T.length c9) T.length (ints T) by simpa using ho9); have hpathA : True := trivial; clear ho9 hg9)
            | ((refine step_append_sl _ (by rfl) _ _ _ (by rfl) wr.heap.size 3 i0 (.int .i64 0) 1 8 Tryz.underlying38 hi iz0 iz1 iz2 rfl (by decide) (.slice (some ⟨wr.heap.size, 0, none⟩) 0 0) 0 [] (by rfl) (by exact HR2.out.drew)
                 _ T.length _ (ints T) (by rfl) (by exact HSH.out _ (HS.out.below HW2.out.drew)) (by rw [ints_len, Nat.mul_one]) (ints_one _) (by unfold maxLen; omega) (by omega) (by exact HW2.out.drew.size) ?_); intro a9 c9 w9 ho9 hg9; have HB9 := Lib.hid (HW2.out.drew.grown hg9 HW2.out.drew.size (fun q hq => (HR2.out.lt q hq).1)); have hsz9 := HB9.out.size; have HO9 := Lib.hid (show w9.ownsRow wr.heap.size 3 1 (.slice a9 T.length c9) T.length (ints T) by simpa using ho9); have HX9 := Lib.hid (HX2.out.drew.kept hg9 (.inr (by simp [Value.ownBlock]))); clear ho9 hg9)
            | ((refine step_append_sl _ (by rfl) _ _ _ (by rfl) wr.heap.size 3 i0 (.int .i64 0) 1 8 Tryz.underlying38 hi iz0 iz1 iz2 rfl (by decide) (.slice (some ⟨wr.heap.size + 1, 0, none⟩) 0 0) 0 [] (by rfl) (by exact HR3.out.drew)
                 _ T.length _ (ints T) (by rfl) (by exact HSH.out _ (HS.out.below HW3.out.drew)) (by rw [ints_len, Nat.mul_one]) (ints_one _) (by unfold maxLen; omega) (by omega) (by exact HW3.out.drew.size) ?_); intro a9 c9 w9 ho9 hg9; have HB9 := Lib.hid (HW3.out.drew.grown hg9 HW3.out.drew.size (fun q hq => (HR3.out.lt q hq).1)); have hsz9 := HB9.out.size; have HO9 := Lib.hid (show w9.ownsRow wr.heap.size 3 1 (.slice a9 T.length c9) T.length (ints T) by simpa using ho9); have HX9 := Lib.hid (HX3.out.drew.kept hg9 (.inr (by simp [Value.ownBlock]))); clear ho9 hg9)
            | ((refine step_append_sl _ (by rfl) _ _ _ (by rfl) wr.heap.size 3 i0 (.int .i64 0) 1 8 Tryz.underlying38 hi iz0 iz1 iz2 rfl (by decide) (.slice a9 T.length c9) T.length (ints T) (by rfl) (by exact HO9.out.alloc _)
                 _ 1 _ (ints [n]) (by rfl) (by exact SlR.of_own (own_one w9 n)) (by rfl) (ints_one _) (by unfold maxLen; omega) (by omega) (by simp; omega) ?_); have hpA := hpathA; intro a10 c10 w10 ho10 hg10; have HB10 := Lib.hid ((HB9.out.alloc HB9.out.size (.cells #[.int .i64 n] 3)).grown hg10 (by simp; omega) (fun q hq => (HO9.out.lt q hq).1)); have hsz10 := HB10.out.size; have HO10 := Lib.hid ho10; clear ho10 hg10)
            | ((refine step_append_sl _ (by rfl) _ _ _ (by rfl) wr.heap.size 3 i0 (.int .i64 0) 1 8 Tryz.underlying38 hi iz0 iz1 iz2 rfl (by decide) (.slice a9 (0 + T.length) c9) T.length (ints T) (by rfl) (by simpa using HO9.out)
                 _ 1 _ (ints [n]) (by rfl) (by exact SlR.of_own HX9.out) (by rfl) (ints_one _) (by unfold maxLen; omega) (by omega) (by omega) ?_); intro a10 c10 w10 ho10 hg10; have HB10 := Lib.hid (HB9.out.grown hg10 (by omega) (fun q hq => (HO9.out.lt q (by simpa [Value.ownBlock] using hq)).1)); have hsz10 := HB10.out.size; have HO10 := Lib.hid ho10; clear ho10 hg10)
            | ((refine step_append_sl _ (by rfl) _ _ _ (by rfl) wr.heap.size 3 i0 (.int .i64 0) 1 8 Tryz.underlying38 hi iz0 iz1 iz2 rfl (by decide) (.slice a10 (T.length + 1) c10) (T.length + 1) (ints T ++ ints [n]) (by rfl) (by exact HO10.out)
                 _ D.length _ (ints D) (by rfl) (by exact HST.out _ (HS.out.below HB10.out)) (by rw [ints_len, Nat.mul_one]) (ints_one _) (by unfold maxLen; omega) (by omega) (by omega) ?_); intro a11 c11 w11 ho11 hg11; have HB11 := Lib.hid (HB10.out.grown hg11 (by omega) (fun q hq => (HO10.out.lt q hq).1)); have HO11 := Lib.hid ho11; clear ho11 hg11)
            | fail "no arm")
        all_goals
          go_wp2_with fail
          go_ret
          have h11 := SlR.of_own HO11.out
          have e1 : (T ++ n :: D).length = T.length + 1 + D.length := by simp; omega
          have h12 : SlR w11 (.slice a11 (T.length + 1 + D.length) c11) (T ++ n :: D).length (ints (T ++ n :: D)) := by
            rw [e1, show T ++ n :: D = (T ++ [n]) ++ D by simp, ints_app, ints_app]
            exact h11
          refine ⟨_, rfl, ?_, HB11.out⟩
          first
            | (rw [HIN.out]; exact h12)
            | exact h12
            | simpa using h12
theorem timesL_step {G : List Sg} {k : Nat} (h : k < G.length) : timesL (G.take (k + 1)) = (tms G[k].2.2).foldl insT (timesL (G.take k)) := by
  unfold timesL
  rw [allT_take h, List.foldl_append]
set_option maxHeartbeats 1600000 in
set_option maxRecDepth 100000 in
theorem rf_Times (t : Tr) (p : TP) (w : World) (ht : TrM w t p) (hv : VF t) :
    Calls Tryz.prog 24 #[p.v t] w fun e W' => ∃ v, e = .returned v ∧ SlR W' v (timesL t.G).length (ints (timesL t.G)) ∧ Below w.heap.size w W' := by
  obtain ⟨a1, k1, a2, k2, a3, k3, a4, k4, e, -, -, e3, -, hk3, hm3⟩ := ht.open
  rw [e]
  unfold maxLen at hm3
  have hb1 : Below w.heap.size w (w.alloc (.cells (boxT t a1 a2 a3 a4 k1 k2 k3 k4) 27)) := (Below.refl _ _).alloc (Nat.le_refl _) _
  have hsg := ht.g.below hb1
  rw [e3] at hsg
  have HX := Lib.hid (Bx.new w (boxT t a1 a2 a3 a4 k1 k2 k3 k4) 27)
  have HSG := Lib.hid hsg
  have HLN := Lib.hid ht.len
  have HMG := Lib.hid ht.m
  have HCT := Lib.hid hv.ct
  have hgl := hv.ft.2.2.1
  have HB1 := Lib.hid hb1
  clear ht hv hb1 hsg e e3
  go_enter Tryz.func24, Tryz.ntmps24
  go_wp2_with fail
  have HZ1 := Lib.hid (show (w.alloc (.cells (boxT t a1 a2 a3 a4 k1 k2 k3 k4) 27)).heap.size = w.heap.size + 1 by simp)
  generalize w.alloc (.cells (boxT t a1 a2 a3 a4 k1 k2 k3 k4) 27) = w1 at *
  have HO0 := Lib.hid (World.ownsRow_made w1 #[] 0 (Nat.le_refl _) (Nat.zero_le _) rfl : (w1.alloc (.cells #[] 3)).ownsRow w1.heap.size 3 1 (.slice (some ⟨w1.heap.size, 0, none⟩) 0 0) 0 [])
  have HB2 := Lib.hid (HB1.out.alloc HB1.out.size (.cells #[] 3))
  have HX2 := Lib.hid (HX.out.step ((Below.refl w1.heap.size w1).alloc (Nat.le_refl _) (.cells #[] 3)))
  have HS2 := Lib.hid (HSG.out.below ((Below.refl w1.heap.size w1).alloc (Nat.le_refl _) (.cells #[] 3)))
  go_loopw [3, 4] (fun o_ i wr => ∃ k : Nat, k ≤ t.G.length ∧ i = .int .i64 k ∧ SlR wr o_ (timesL (t.G.take k)).length (ints (timesL (t.G.take k))) ∧ Below w.heap.size w wr ∧ Bx wr w.heap.size (boxT t a1 a2 a3 a4 k1 k2 k3 k4) ∧ Sigs wr (.slice a3 p.M.length k3) p.M) (fun _ i _ => t.G.length - (intOf i).toNat)
  case atStart => exact ⟨0, Nat.zero_le _, rfl, by have := SlR.of_own HO0.out; rw [show w1.heap.size = w.heap.size + 1 from HZ1.out] at this; simpa [timesL, allT, ints] using this, HB2.out, HX2.out, HS2.out⟩
  case round =>
    obtain ⟨k, hk, rfl, hs, hb, hx, hsg⟩ := hrel
    obtain ⟨oa, oc, rfl, -, -⟩ := hs.shape
    have HS := Lib.hid hs
    have HB := Lib.hid hb
    have HX3 := Lib.hid hx
    have HSG3 := Lib.hid hsg
    obtain ⟨p0, p1, p2, p3, p4, p5, p6, p7, p8⟩ := hx.nine
    clear hs hb hx hsg
    by_cases hkl : k < t.G.length
    · have hmk : k < p.M.length := by rw [HLN.out]; exact hkl
      obtain ⟨b, o, rfl, d0, d1, d2, hd⟩ := HSG3.out.at hmk
      have hGk : t.G[k] = p.M[k].1 := by
        have : (p.M.map Prod.fst)[k]? = t.G[k]? := by rw [HMG.out]
        rw [List.getElem?_map, List.getElem?_eq_getElem hmk, List.getElem?_eq_getElem hkl] at this
        exact (Option.some.inj this).symm
      have HTS := Lib.hid (timesL_step hkl)
      have HTL := Lib.hid (Nat.le_trans (timesL_len (t.G.take k)) (countL_take_le (G := t.G) (k := k)))
      have HCK := Lib.hid (countL_take hkl)
      have HCL := Lib.hid (Nat.le_trans (countL_take_le (G := t.G) (k := k + 1)) HCT.out)
      have HTI := Lib.hid (timesL_inc (t.G.take k))
      have HT0 := Lib.hid (Nat.le_trans (timesL_len (t.G.take k)) (Nat.le_refl _))
      rw [hGk] at HTS HCK
      clear hGk
      have hdd := hd
      obtain ⟨x, hx0⟩ : ∃ x, p.M[k] = x := ⟨_, rfl⟩
      rw [hx0] at d0 d1 d2 hd hdd HTS HCK
      obtain ⟨⟨kk, nn, l⟩, xv⟩ := x
      dsimp only at d0 d1 d2 hd hdd HTS HCK
      obtain ⟨xa, xc, rfl, -, hxm⟩ := hd.shape
      unfold maxLen at hxm
      have HD := Lib.hid hdd
      have hw' := nat_wrap k (by omega)
      have hcq : countL (t.G.take k) + l.length ≤ 4096 := by rw [← HCK.out]; exact HCL.out
      have ht0 := HTL.out
      clear hd hdd HTL
      have hT0 : (timesL (t.G.take k)).length + l.length ≤ 4096 := by have := HT0.out; omega
      generalize timesL (t.G.take k) = T0 at *
      clear hcq ht0 HT0
      obtain ⟨wo, rfl⟩ : ∃ wo : World, wo = wr := ⟨_, rfl⟩
      go_wp2_with fail
      go_loopw [3, 5] (fun o_ j_ wr2 => ∃ (q : Nat), q ≤ l.length ∧ j_ = .int .i64 q ∧ SlR wr2 o_ ((tms (l.take q)).foldl insT T0).length (ints ((tms (l.take q)).foldl insT T0)) ∧ Below wo.heap.size wo wr2) (fun _ j_ _ => l.length - (intOf j_).toNat)
      case atStart => exact ⟨0, Nat.zero_le _, rfl, HS.out, Below.refl _ _⟩
      case round =>
        obtain ⟨q, hq, rfl, hs2, hb2⟩ := hrel
        obtain ⟨ob, od, rfl, -, -⟩ := hs2.shape
        have HS2 := Lib.hid hs2
        have HB2' := Lib.hid hb2
        have HX4 := Lib.hid (HX3.out.step hb2)
        have HSG4 := Lib.hid (HSG3.out.below hb2)
        obtain ⟨p0, p1, p2, p3, p4, p5, p6, p7, p8⟩ := HX4.out.nine
        obtain ⟨b3, o3, e4, f0, f1, f2, -⟩ := HSG4.out.at hmk
        rw [hx0] at f0 f1 f2
        dsimp only at f0 f1 f2
        have HINC := Lib.hid (foldT_inc (l := tms (l.take q)) HTI.out)
        have hl1 := foldT_len (l := tms (l.take q)) (acc := T0)
        have hl2 : (tms (l.take q)).length ≤ l.length := by unfold tms; rw [List.length_map, List.length_take]; omega
        have HLEN := Lib.hid (show ((tms (l.take q)).foldl insT T0).length ≤ 4096 by omega)
        injection e4 with e4
        injection e4 with e5 e6 _
        subst e5 e6
        clear hl1 hl2
        clear hs2 hb2
        by_cases hql : q < l.length
        · obtain ⟨b2, o2, rfl, c0, c1⟩ := (HD.out.below HB2'.out).ch hql
          have HTK := Lib.hid (tms_take hql)
          generalize l[q] = c at *
          obtain ⟨ct, cv⟩ := c
          dsimp only at c0 c1 HTK
          have hw2 := nat_wrap q (by omega)
          have HIT := Lib.hid (rf_insert _ ((tms (l.take q)).foldl insT T0) ct wr HS2.out HINC.out (by have := HLEN.out; omega))
          have HNX := Lib.hid (show insT ((tms (l.take q)).foldl insT T0) ct = (tms (l.take (q + 1))).foldl insT T0 by rw [HTK.out, List.foldl_append]; rfl)
          go_wp2_with fail
          refine HIT.out.mono ?_
          rintro e w4 ⟨v4, rfl, hs4, hb4⟩
          rw [HNX.out] at hs4
          obtain ⟨oe, of_, rfl, -, -⟩ := hs4.shape
          have HS4 := Lib.hid hs4
          have HB4 := Lib.hid (ext_trans HB2'.out hb4)
          clear hs4 hb4
          go_wp2_with fail
          go_roundw
          case rel => exact ⟨q + 1, hql, by go_num, HS4.out, HB4.out⟩
          case measure => simp [intOf]; omega
        · obtain rfl : q = l.length := by omega
          have hw3 := nat_wrap k (by omega)
          go_wp2_with fail
          go_roundw
          case rel => exact ⟨k + 1, hkl, by go_num, by rw [HTS.out]; have := HS2.out; simp only [List.take_length] at this ⊢; exact this, ext_trans HB.out HB2'.out, HX4.out, HSG4.out⟩
          case measure => simp [intOf]; omega
    · obtain rfl : k = t.G.length := by omega
      have h1 := HS.out
      rw [List.take_length] at h1 ⊢
      have HS1 := Lib.hid h1
      clear h1
      go_wp2_with fail
      go_ret
      exact ⟨_, rfl, HS1.out, HB.out⟩
end Go.Proofs.YtbiadennhnokhaaGreatDoor
