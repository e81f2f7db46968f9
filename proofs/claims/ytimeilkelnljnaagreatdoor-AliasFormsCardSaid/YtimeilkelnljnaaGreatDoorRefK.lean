import Derived.Test.YtimeilkelnljnaaGreatDoorRefJ
import Derived.Test.YtimeilkelnljnaaGreatDoorEq
namespace Go.Proofs.YtimeilkelnljnaaGreatDoor
open Go.RowKit


set_option maxHeartbeats 1600000 in
set_option maxRecDepth 100000 in
theorem ref_Normal (k n : Int) (v : Value) (l : List Ch) (w : World) (hs : SlR w v l.length (chs l)) (hl : l.length ≤ 1000000) :
    Calls Tryz.prog 81 #[.int .i64 k, .int .i64 n, v] w fun e w' => ∃ v', e = .returned v' ∧ w'.ownsRow w.heap.size 75 2 v' (normS k n l).length (chs (normS k n l)) ∧ Below w.heap.size w w' := by
  obtain ⟨a, cap, rfl, hc, hm⟩ := hs.shape
  have HS := Lib.hid hs
  unfold maxLen at hm
  obtain ⟨i0, hi, iz0, iz1, iz2⟩ := info_parts (P := Tryz.prog) change_info
  clear hs
  go_enter Tryz.func81, Tryz.ntmps81
  go_wp2_with fail
  refine (ref_vInitial k n _).mono ?_
  rintro e w1 ⟨rfl, hb⟩
  have HO1 := Lib.hid ((World.ownsRow_made w #[] 0 (Nat.le_refl _) (Nat.zero_le _) rfl : (w.alloc (.cells #[] 75)).ownsRow w.heap.size 75 2 (.slice (some ⟨w.heap.size, 0, none⟩) 0 0) 0 []).kept (w' := w1) (row := none) ⟨hb.os, hb.tape, hb.output, hb.size, fun i hi _ => hb.block i hi⟩ (.inr (by simp [Value.ownBlock])))
  have HB := Lib.hid (ext_alloc hb)
  clear hb
  go_wp2_with fail
  go_loopw [7, 8, 9] (fun o_ v_ i wr => ∃ (j : Nat) (v : ByteArray) (out : List Ch), j ≤ l.length ∧ i = .int .i64 j ∧ v_ = .string v ∧ out.length ≤ j ∧ out ++ normGo k v (l.drop j) = normS k n l ∧ wr.ownsRow w.heap.size 75 2 o_ out.length (chs out) ∧ Below w.heap.size w wr)
    (fun _ _ i _ => l.length - (intOf i).toNat)
  case atStart => exact ⟨0, vi k n, [], Nat.zero_le _, rfl, rfl, Nat.le_refl _, rfl, HO1.out, HB.out⟩
  case round =>
    obtain ⟨j, v, out, hj, rfl, rfl, hol, hn, ho, hb⟩ := hrel
    obtain ⟨ao, co, rfl, hco, hmo⟩ := (SlR.of_own ho).shape
    have hsz := hb.size
    have HO := Lib.hid ho
    have HB2 := Lib.hid hb
    have HN := Lib.hid hn
    clear ho hb hn HB HO1
    by_cases hlt : j < l.length
    · obtain ⟨b, o, rfl, d0, d1⟩ := (HS.out.below HB2.out).ch hlt
      obtain ⟨b2, o2, he2, -, e1⟩ := HS.out.ch hlt
      injection he2 with he2
      injection he2 with he3 he4 _
      subst he3 he4
      have hblt := cell_lt d0
      have HN2 : Hid (out ++ (if (∃ d ∈ (l.drop (j + 1)).head?, d.1 = l[j].1) ∨ (k ≠ 3 ∧ l[j].2 = v) then normGo k v (l.drop (j + 1)) else l[j] :: normGo k l[j].2 (l.drop (j + 1))) = normS k n l) := Lib.hid (by
        have := HN.out
        rw [List.drop_eq_getElem_cons hlt, normGo] at this
        exact this)
      have hw1 := nat_wrap j (by omega)
      have hw2 : (0 : Int) ≤ (j : Int) + 1 := by omega
      have hw3 : ((j : Int) + 1).toNat = j + 1 := by omega
      by_cases hnx : j + 1 < l.length
      · obtain ⟨b', o', he, x0, -⟩ := (HS.out.below HB2.out).ch hnx
        injection he with he
        injection he with he1 he2 _
        subst he1 he2
        have HH : Hid ((l.drop (j + 1)).head? = some l[j + 1]) := Lib.hid (by rw [List.head?_drop, List.getElem?_eq_getElem hnx])
        generalize hc0 : l[j] = c at d0 d1 e1 HN2
        generalize l[j + 1] = d at x0 HH
        obtain ⟨t, s⟩ := c
        obtain ⟨t', s'⟩ := d
        simp only at d0 d1 e1 x0
        clear hc0
        have hnx' : decide ((j : Int) + 1 < (l.length : Int)) = true := by simp; omega
        by_cases hsame : t' = t
        · have HNS : Hid (out ++ normGo k v (l.drop (j + 1)) = normS k n l) := Lib.hid (by
            rw [← HN2.out, if_pos (.inl ⟨(t', s'), by rw [HH.out]; rfl, hsame⟩)])
          have hsb : ((t' : Int) == t) = true := by rw [beq_iff_eq]; exact hsame
          clear hsame
          go_wp2_with fail
          go_quiet (fail)
          go_wp2_with fail
          go_roundw
          case rel => exact ⟨j + 1, v, out, by omega, by go_num, rfl, by omega, HNS.out, HO.out, below_drewN HB2.out _⟩
          case measure => simp [intOf]; omega
        · have hnh : ¬ ∃ d ∈ (l.drop (j + 1)).head?, d.1 = t := by rw [HH.out]; rintro ⟨d, hd, he⟩; obtain rfl := Option.some.inj hd; exact hsame he
          have hsb : ((t' : Int) == t) = false := by rw [beq_eq_false_iff_ne]; exact hsame
          have HNH := Lib.hid hnh
          clear hsame hnh
          by_cases hk3 : k = 3
          · have HNS : Hid ((out ++ [(t, s)]) ++ normGo k s (l.drop (j + 1)) = normS k n l) := Lib.hid (by
              rw [← HN2.out, if_neg (fun h => h.elim (fun h => HNH.out h) (fun h => h.1 hk3))]; simp)
            have hkb : (k != 3) = false := by rw [bne_eq_false_iff_eq]; exact hk3
            clear hk3
            go_wp2_with fail
            go_quiet (fail)
            have hcell := fun (W : World) => World.news_of_block (w := W.alloc (.cells #[.int .i64 t, .string s] 75)) (cs := #[.int .i64 t, .string s]) (t := 75) (fr := (0, 0)) (by exact heap_alloc_new W _)
            have HC := Lib.hid hcell
            clear hcell
            go_wp2_with (at_builtin; refine wpList_append_own _ rfl _ _ 35 rfl w.heap.size 75 i0 (.agg #[.int .i64 0, .string ⟨#[]⟩]) 2 24 Tryz.underlying35 hi iz0 iz1 iz2 rfl (by decide) _ _ _ rfl (World.ownsRow.alloc (by exact HO.out) _) ⟨wr.heap.size, 0, none⟩ 1 1 [.int .i64 t, .string s] rfl rfl (by exact HC.out _) (by simp [Value.oneCell']) (by unfold maxLen; omega) (by omega) (by simp; omega) ?_)
            intro v4 w4 ho4 hg4 _
            have HO4 := Lib.hid ho4
            have hb4 : Below w.heap.size w w4 := Below.grown ((below_drewN HB2.out _).alloc (by simpa using hsz) _) hg4 (by simp; omega) (fun q hq => by have := (HO.out.lt q hq).1; simp; omega)
            have d1' := (hb4.cell (p := ⟨b, o + j * 2 + 1, none⟩) (cell_lt e1)).trans e1
            have HB4 := Lib.hid hb4
            clear ho4 hg4 hb4
            go_wp2_with fail
            go_roundw
            case rel => exact ⟨j + 1, s, out ++ [(t, s)], by omega, by go_num, rfl, by simp; omega, HNS.out, by rw [chs_append]; simpa [chs, encC] using HO4.out, HB4.out⟩
            case measure => simp [intOf]; omega
          · have hkb : (k != 3) = true := by rw [bne_iff_ne]; exact hk3
            by_cases hsv : s = v
            · have HNS : Hid (out ++ normGo k v (l.drop (j + 1)) = normS k n l) := Lib.hid (by
                rw [← HN2.out, if_pos (.inr ⟨hk3, hsv⟩)])
              subst hsv
              clear hk3
              go_wp2_with fail
              go_quiet (fail)
              go_wp2_with fail
              go_roundw
              case rel => exact ⟨j + 1, s, out, by omega, by go_num, rfl, by omega, HNS.out, HO.out, below_drewN HB2.out _⟩
              case measure => simp [intOf]; omega
            · have HNS : Hid ((out ++ [(t, s)]) ++ normGo k s (l.drop (j + 1)) = normS k n l) := Lib.hid (by
                rw [← HN2.out, if_neg (fun h => h.elim (fun h => HNH.out h) (fun h => hsv h.2))]; simp)
              have hsb := ba_ne hsv
              clear hk3 hsv
              go_wp2_with fail
              go_quiet (fail)
              have hcell := fun (W : World) => World.news_of_block (w := W.alloc (.cells #[.int .i64 t, .string s] 75)) (cs := #[.int .i64 t, .string s]) (t := 75) (fr := (0, 0)) (by exact heap_alloc_new W _)
              have HC := Lib.hid hcell
              clear hcell
              go_wp2_with (at_builtin; refine wpList_append_own _ rfl _ _ 35 rfl w.heap.size 75 i0 (.agg #[.int .i64 0, .string ⟨#[]⟩]) 2 24 Tryz.underlying35 hi iz0 iz1 iz2 rfl (by decide) _ _ _ rfl (World.ownsRow.alloc (by exact HO.out) _) ⟨wr.heap.size, 0, none⟩ 1 1 [.int .i64 t, .string s] rfl rfl (by exact HC.out _) (by simp [Value.oneCell']) (by unfold maxLen; omega) (by omega) (by simp; omega) ?_)
              intro v4 w4 ho4 hg4 _
              have HO4 := Lib.hid ho4
              have hb4 : Below w.heap.size w w4 := Below.grown ((below_drewN HB2.out _).alloc (by simpa using hsz) _) hg4 (by simp; omega) (fun q hq => by have := (HO.out.lt q hq).1; simp; omega)
              have d1' := (hb4.cell (p := ⟨b, o + j * 2 + 1, none⟩) (cell_lt e1)).trans e1
              have HB4 := Lib.hid hb4
              clear ho4 hg4 hb4
              go_wp2_with fail
              go_roundw
              case rel => exact ⟨j + 1, s, out ++ [(t, s)], by omega, by go_num, rfl, by simp; omega, HNS.out, by rw [chs_append]; simpa [chs, encC] using HO4.out, HB4.out⟩
              case measure => simp [intOf]; omega
      · have hnh : ¬ ∃ d ∈ (l.drop (j + 1)).head?, d.1 = l[j].1 := by rw [List.drop_eq_nil_of_le (by omega)]; rintro ⟨d, hd, -⟩; cases hd
        generalize hc0 : l[j] = c at d0 d1 e1 HN2 hnh
        obtain ⟨t, s⟩ := c
        simp only at d0 d1 e1
        have HNH := Lib.hid hnh
        have hnx' : decide ((j : Int) + 1 < (l.length : Int)) = false := by simp; omega
        clear hc0 hnh hnx
        by_cases hk3 : k = 3
        · have HNS : Hid ((out ++ [(t, s)]) ++ normGo k s (l.drop (j + 1)) = normS k n l) := Lib.hid (by
            rw [← HN2.out, if_neg (fun h => h.elim (fun h => HNH.out h) (fun h => h.1 hk3))]; simp)
          have hkb : (k != 3) = false := by rw [bne_eq_false_iff_eq]; exact hk3
          clear hk3
          go_wp2_with fail
          go_quiet (fail)
          have hcell := fun (W : World) => World.news_of_block (w := W.alloc (.cells #[.int .i64 t, .string s] 75)) (cs := #[.int .i64 t, .string s]) (t := 75) (fr := (0, 0)) (by exact heap_alloc_new W _)
          have HC := Lib.hid hcell
          clear hcell
          go_wp2_with (at_builtin; refine wpList_append_own _ rfl _ _ 35 rfl w.heap.size 75 i0 (.agg #[.int .i64 0, .string ⟨#[]⟩]) 2 24 Tryz.underlying35 hi iz0 iz1 iz2 rfl (by decide) _ _ _ rfl (World.ownsRow.alloc (by exact HO.out) _) ⟨wr.heap.size, 0, none⟩ 1 1 [.int .i64 t, .string s] rfl rfl (by exact HC.out _) (by simp [Value.oneCell']) (by unfold maxLen; omega) (by omega) (by simp; omega) ?_)
          intro v4 w4 ho4 hg4 _
          have HO4 := Lib.hid ho4
          have hb4 : Below w.heap.size w w4 := Below.grown ((below_drewN HB2.out _).alloc (by simpa using hsz) _) hg4 (by simp; omega) (fun q hq => by have := (HO.out.lt q hq).1; simp; omega)
          have d1' := (hb4.cell (p := ⟨b, o + j * 2 + 1, none⟩) (cell_lt e1)).trans e1
          have HB4 := Lib.hid hb4
          clear ho4 hg4 hb4
          go_wp2_with fail
          go_roundw
          case rel => exact ⟨j + 1, s, out ++ [(t, s)], by omega, by go_num, rfl, by simp; omega, HNS.out, by rw [chs_append]; simpa [chs, encC] using HO4.out, HB4.out⟩
          case measure => simp [intOf]; omega
        · have hkb : (k != 3) = true := by rw [bne_iff_ne]; exact hk3
          by_cases hsv : s = v
          · have HNS : Hid (out ++ normGo k v (l.drop (j + 1)) = normS k n l) := Lib.hid (by
              rw [← HN2.out, if_pos (.inr ⟨hk3, hsv⟩)])
            subst hsv
            clear hk3
            go_wp2_with fail
            go_quiet (fail)
            go_wp2_with fail
            go_roundw
            case rel => exact ⟨j + 1, s, out, by omega, by go_num, rfl, by omega, HNS.out, HO.out, below_drewN HB2.out _⟩
            case measure => simp [intOf]; omega
          · have HNS : Hid ((out ++ [(t, s)]) ++ normGo k s (l.drop (j + 1)) = normS k n l) := Lib.hid (by
              rw [← HN2.out, if_neg (fun h => h.elim (fun h => HNH.out h) (fun h => hsv h.2))]; simp)
            have hsb := ba_ne hsv
            clear hk3 hsv
            go_wp2_with fail
            go_quiet (fail)
            have hcell := fun (W : World) => World.news_of_block (w := W.alloc (.cells #[.int .i64 t, .string s] 75)) (cs := #[.int .i64 t, .string s]) (t := 75) (fr := (0, 0)) (by exact heap_alloc_new W _)
            have HC := Lib.hid hcell
            clear hcell
            go_wp2_with (at_builtin; refine wpList_append_own _ rfl _ _ 35 rfl w.heap.size 75 i0 (.agg #[.int .i64 0, .string ⟨#[]⟩]) 2 24 Tryz.underlying35 hi iz0 iz1 iz2 rfl (by decide) _ _ _ rfl (World.ownsRow.alloc (by exact HO.out) _) ⟨wr.heap.size, 0, none⟩ 1 1 [.int .i64 t, .string s] rfl rfl (by exact HC.out _) (by simp [Value.oneCell']) (by unfold maxLen; omega) (by omega) (by simp; omega) ?_)
            intro v4 w4 ho4 hg4 _
            have HO4 := Lib.hid ho4
            have hb4 : Below w.heap.size w w4 := Below.grown ((below_drewN HB2.out _).alloc (by simpa using hsz) _) hg4 (by simp; omega) (fun q hq => by have := (HO.out.lt q hq).1; simp; omega)
            have d1' := (hb4.cell (p := ⟨b, o + j * 2 + 1, none⟩) (cell_lt e1)).trans e1
            have HB4 := Lib.hid hb4
            clear ho4 hg4 hb4
            go_wp2_with fail
            go_roundw
            case rel => exact ⟨j + 1, s, out ++ [(t, s)], by omega, by go_num, rfl, by simp; omega, HNS.out, by rw [chs_append]; simpa [chs, encC] using HO4.out, HB4.out⟩
            case measure => simp [intOf]; omega
    · obtain rfl : j = l.length := by omega
      have HE := Lib.hid (show out = normS k n l by have := HN.out; rw [List.drop_length] at this; simpa [normGo] using this)
      go_wp2_with fail
      go_ret
      exact ⟨_, rfl, by rw [← HE.out]; exact HO.out, HB2.out⟩

set_option maxHeartbeats 800000 in
set_option maxRecDepth 100000 in
theorem ref_Equal (k n k2 n2 : Int) (v u : Value) (l m : List Ch) (w : World) (hs : SlR w v l.length (chs l)) (ht : SlR w u m.length (chs m)) :
    Calls Tryz.prog 60 #[.agg #[.int .i64 k, .int .i64 n, v], .agg #[.int .i64 k2, .int .i64 n2, u]] w fun e w' => e = .returned (.bool (sEq k n l k2 n2 m)) ∧ Below w.heap.size w w' := by
  obtain ⟨a, cap, rfl, hc, hm⟩ := hs.shape
  obtain ⟨a2, cap2, rfl, hc2, hm2⟩ := ht.shape
  have hbw : Below w.heap.size w ((w.alloc (.cells #[.int .i64 k, .int .i64 n, .slice a l.length cap] 37)).alloc (.cells #[.int .i64 k2, .int .i64 n2, .slice a2 m.length cap2] 37)) := ((Below.refl _ _).alloc (Nat.le_refl _) _).alloc (by simp) _
  have HE := Lib.hid (ref_SameChanges _ _ l m _ (hs.below hbw) (ht.below hbw))
  have HB := Lib.hid hbw
  clear hs ht hbw
  by_cases hk : k = k2
  · by_cases hn : n = n2
    · have HR := Lib.hid (show sEq k n l k2 n2 m = sameC l m by simp [sEq, hk, hn])
      subst hk hn
      go_enter Tryz.func60, Tryz.ntmps60
      go_wp2_with fail
      refine HE.out.mono ?_
      rintro e w1 ⟨rfl, hb⟩
      go_wp2_with fail
      go_ret
      exact ⟨ret_bool HR.out.symm, HB.out.trans (hb.mono HB.out.size)⟩
    · have HR := Lib.hid (show sEq k n l k2 n2 m = false by simp [sEq, hk, hn])
      have hnb : (n == n2) = false := by rw [beq_eq_false_iff_ne]; exact hn
      subst hk
      clear hn
      go_enter Tryz.func60, Tryz.ntmps60
      go_wp2_with fail
      go_ret
      exact ⟨ret_bool HR.out.symm, HB.out⟩
  · have HR := Lib.hid (show sEq k n l k2 n2 m = false by simp [sEq, hk])
    have hkb : (k == k2) = false := by rw [beq_eq_false_iff_ne]; exact hk
    clear hk
    go_enter Tryz.func60, Tryz.ntmps60
    go_wp2_with fail
    go_ret
    exact ⟨ret_bool HR.out.symm, HB.out⟩
end Go.Proofs.YtimeilkelnljnaaGreatDoor
