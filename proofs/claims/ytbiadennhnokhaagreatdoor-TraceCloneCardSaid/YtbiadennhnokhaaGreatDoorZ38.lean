import Derived.Test.YtbiadennhnokhaaGreatDoorZ37
/- trace.Times. -/
namespace Go.Proofs.YtbiadennhnokhaaGreatDoor
open Go.RowKit Go.Sort
set_option linter.unusedSimpArgs false

/-- what the map of times reads as -/
def seenT (l : List Int) (y : Int) : Option Value := if y ∈ l then some (.bool true) else none
theorem seenT_snoc (l : List Int) (x y : Int) : (if y = x then some (Value.bool true) else seenT l y) = seenT (l ++ [x]) y := by
  unfold seenT
  by_cases h : y = x
  · subst h; simp
  · rw [if_neg h]
    simp [h]
def tms (l : List Ch) : List Int := l.map Prod.fst
theorem tms_take {l : List Ch} {k : Nat} (h : k < l.length) : tms (l.take (k + 1)) = tms (l.take k) ++ [l[k].1] := by
  unfold tms
  rw [List.take_succ_eq_append_getElem h, List.map_append]
  rfl
theorem allT_take {G : List Sg} {k : Nat} (h : k < G.length) : allT (G.take (k + 1)) = allT (G.take k) ++ tms G[k].2.2 := by
  unfold allT tms
  rw [List.take_succ_eq_append_getElem h, List.flatMap_append]
  simp
theorem seenT_iff (l : List Int) (y : Int) : (seenT l y).isSome = true ↔ y ∈ l := by
  unfold seenT
  by_cases h : y ∈ l
  · simp [h]
  · simp [h]
theorem countL_take_le {G : List Sg} {k : Nat} : countL (G.take k) ≤ countL G := by
  unfold countL
  conv => rhs; rw [← List.take_append_drop k G]
  rw [List.map_append, List.sum_append]
  omega
theorem countL_take {G : List Sg} {k : Nat} (h : k < G.length) : countL (G.take (k + 1)) = countL (G.take k) + G[k].2.2.length := by
  unfold countL
  rw [List.take_succ_eq_append_getElem h, List.map_append, List.sum_append]
  simp
set_option maxHeartbeats 1600000 in
set_option maxRecDepth 100000 in
theorem tr_Times (t : Tr) (p : TP) (w : World) (ht : TrM w t p) (hv : VF t) :
    Calls Tryz.prog 23 #[p.v t] w fun e W' => ∃ v, e = .returned v ∧ W'.ownsRow w.heap.size 3 1 v (timesL t.G).length (ints (timesL t.G)) ∧ Below w.heap.size w W' := by
  obtain ⟨a1, k1, a2, k2, a3, k3, a4, k4, e, -, -, e3, -, hk3, hm3⟩ := ht.open
  rw [e]
  unfold maxLen at hm3
  have hb1 : Below w.heap.size w (w.alloc (.cells (boxT t a1 a2 a3 a4 k1 k2 k3 k4) 27)) := (Below.refl _ _).alloc (Nat.le_refl _) _
  have hsg := ht.g.below hb1
  rw [e3] at hsg
  have HX := Lib.hid (OwnRow.fresh w (boxT t a1 a2 a3 a4 k1 k2 k3 k4) 27)
  have HSG := Lib.hid hsg
  have HLN := Lib.hid ht.len
  have HMG := Lib.hid ht.m
  have HCT := Lib.hid hv.ct
  have hgl := hv.ft.2.2.1
  have HWF := Lib.hid hv.tm
  have HB1 := Lib.hid hb1
  have hlt : w.heap.size < (w.alloc (.cells (boxT t a1 a2 a3 a4 k1 k2 k3 k4) 27)).heap.size := by simp
  clear ht hv hb1 hsg e e3
  have hmm := @run_makeMap Tryz.prog
  go_enter Tryz.func23, Tryz.ntmps23
  go_wp2_with fail
  generalize hw1 : w.alloc (.cells (boxT t a1 a2 a3 a4 k1 k2 k3 k4) 27) = w1 at *
  have HS1 := Lib.hid (show w1.heap.size = w.heap.size + 1 by rw [← hw1]; simp)
  clear hmm hw1
  have hal : Below w1.heap.size w1 (w1.alloc (.map #[] 0)) := (Below.refl _ _).alloc (Nat.le_refl _) _
  have HM0 := Lib.hid (show KMap (intEnc (P := Tryz.prog) (K := 3) Tryz.underlying3) (w1.alloc (.map #[] 0)) (w.heap.size + 1) 0 (fun _ => none) by
    have := KMap.made (intEnc (P := Tryz.prog) (K := 3) Tryz.underlying3) w1
    rwa [HS1.out] at this)
  have HB2 := Lib.hid hal
  have c6 := (HX.out.below hal hlt).cell (j := 6) rfl
  clear hal
  go_loopw [12] (fun i wr => ∃ k : Nat, k ≤ t.G.length ∧ i = .int .i64 k ∧ KMap (intEnc (P := Tryz.prog) (K := 3) Tryz.underlying3) wr (w.heap.size + 1) (countL (t.G.take k)) (seenT (allT (t.G.take k))) ∧ Below w1.heap.size w1 wr) (fun i _ => t.G.length - (intOf i).toNat)
  case atStart => exact ⟨0, Nat.zero_le _, rfl, (HM0.out.ext (fun s => by simp [seenT, allT])).more (by simp [countL]), HB2.out⟩
  case round =>
    obtain ⟨k, hk, rfl, hm, hb⟩ := hrel
    have HM := Lib.hid hm
    have HB := Lib.hid hb
    clear hm hb
    by_cases hkl : k < t.G.length
    · have hmk : k < p.M.length := by rw [HLN.out]; exact hkl
      obtain ⟨b, o, rfl, d0, d1, d2, hd⟩ := (HSG.out.below HB.out).at hmk
      have hGk : t.G[k] = p.M[k].1 := by
        have : (p.M.map Prod.fst)[k]? = t.G[k]? := by rw [HMG.out]
        rw [List.getElem?_map, List.getElem?_eq_getElem hmk, List.getElem?_eq_getElem hkl] at this
        exact (Option.some.inj this).symm
      have HAT := Lib.hid (allT_take hkl)
      have HCK := Lib.hid (countL_take hkl)
      have HCL := Lib.hid (Nat.le_trans (countL_take_le (G := t.G) (k := k + 1)) HCT.out)
      have HWK := Lib.hid (HWF.out _ (List.getElem_mem hkl))
      rw [hGk] at HAT HCK HWK
      clear hGk
      have HD := Lib.hid (HSG.out.m _ (List.getElem_mem hmk))
      generalize p.M[k] = x at *
      obtain ⟨⟨kk, nn, l⟩, xv⟩ := x
      dsimp only at d0 d1 d2 hd HAT HCK HWK HD
      obtain ⟨xa, xc, rfl, -, hxm⟩ := hd.shape
      unfold maxLen at hxm
      have hw' := nat_wrap k (by omega)
      have hbx : Below wr.heap.size wr (wr.alloc (.cells #[.int .i64 kk, .int .i64 nn, .slice xa l.length xc] 45)) := (Below.refl _ _).alloc (Nat.le_refl _) _
      have HBX := Lib.hid hbx
      have HM1 := Lib.hid (HM.out.below hbx HM.out.lt)
      have HB3 := Lib.hid (HB.out.trans (hbx.mono HB.out.size))
      obtain ⟨wo, rfl⟩ : ∃ wo : World, wo = wr := ⟨_, rfl⟩
      have hcq : countL (t.G.take k) + l.length ≤ 4096 := by rw [← HCK.out]; exact HCL.out
      clear hd hbx
      go_wp2_with fail
      clear d0 d1 d2
      generalize hT : allT (t.G.take k) = T0 at *
      clear hT
      generalize hC : countL (t.G.take k) = C0 at *
      clear hC
      go_loopw [19] (fun i wr2 => ∃ q : Nat, q ≤ l.length ∧ i = .int .i64 q ∧ KMap (intEnc (P := Tryz.prog) (K := 3) Tryz.underlying3) wr2 (w.heap.size + 1) (C0 + q) (seenT (T0 ++ tms (l.take q))) ∧ Below w1.heap.size w1 wr2) (fun i _ => l.length - (intOf i).toNat)
      case atStart => exact ⟨0, Nat.zero_le _, rfl, by simpa [tms] using HM1.out, HB3.out⟩
      case round =>
        obtain ⟨q, hq, rfl, hm2, hb2⟩ := hrel
        have HM2 := Lib.hid hm2
        have HB4 := Lib.hid hb2
        clear hm2 hb2
        by_cases hql : q < l.length
        · obtain ⟨b2, o2, rfl, f0, f1⟩ := (HD.out.below HB4.out).ch hql
          have HTK := Lib.hid (tms_take hql)
          have HWX := Lib.hid (HWK.out _ (List.getElem_mem hql))
          generalize l[q] = c at *
          obtain ⟨ct, cv⟩ := c
          dsimp only at f0 f1 HTK HWX
          have hby : Below wr.heap.size wr (wr.alloc (.cells #[.int .i64 ct, .string cv] 53)) := (Below.refl _ _).alloc (Nat.le_refl _) _
          have HM3 := Lib.hid (HM2.out.below hby HM2.out.lt)
          have HB5 := Lib.hid (HB4.out.trans (hby.mono HB4.out.size))
          have hw2 := nat_wrap q (by omega)
          clear hby
          go_wp2_with (refine wpList_putK _ rfl _ _ _ 118 rfl 4 Tryz.underlying118 (w.heap.size + 1) (C0 + q) _ rfl HM3.out (by unfold maxLen; omega) ct (.bool true) rfl rfl HWX.out ?_; intro w3 hm3 hg3; have HM4 := Lib.hid (hm3.ext (seenT_snoc (T0 ++ tms (l.take q)) ct)); have HB6 := Lib.hid (HB5.out.grown hg3 HB5.out.size (fun j hj => by have := HS1.out; injection hj with hj; omega)); clear hm3 hg3 f0 f1)
          go_roundw
          case rel => exact ⟨q + 1, hql, by go_num, by rw [HTK.out, ← List.append_assoc]; exact HM4.out.more (by omega), HB6.out⟩
          case measure => simp [intOf]; omega
        · obtain rfl : q = l.length := by omega
          have hw3 := nat_wrap k (by omega)
          go_wp2_with fail
          go_roundw
          case rel => exact ⟨k + 1, hkl, by go_num, by rw [HAT.out, HCK.out]; have := HM2.out; rwa [List.take_length] at this, HB4.out⟩
          case measure => simp [intOf]; omega
    · obtain rfl : k = t.G.length := by omega
      have hmm := HM.out
      rw [List.take_length] at hmm
      obtain ⟨D, ho, hf⟩ := hmm
      have HPM := Lib.hid (keys_perm ho Tryz.underlying3 (timesL_nodup t.G) (fun x hx => by
        obtain ⟨s, hs, c, hc, rfl⟩ := timesL_mem.1 hx
        exact HWF.out s hs c hc) (fun x hx => by
        have h1 : Maps.has D (.int .i64 x) = (seenT (allT t.G) x).isSome := (hf x hx).1
        rw [h1, seenT_iff]
        unfold timesL
        rw [foldT_mem]
        simp))
      have hsz := ho.size_le
      have hct := HCT.out
      have HSO := Lib.hid (ik_Sorted (w.heap.size + 1) _ D vR wr ho (by unfold maxLen; omega) (by omega))
      have hlw := HB.out.size
      clear ho hf hsz hct
      go_wp2_with fail
      refine (ik_Keys _ _).mono ?_
      rintro e w2 ⟨rfl, rfl⟩
      go_wp2_with fail
      refine HSO.out.mono ?_
      rintro e w3 ⟨v, ss, rfl, hS, hrow, hb3⟩
      have HS := Lib.hid hS
      have HR := Lib.hid hrow
      have HB9 := Lib.hid hb3
      clear hS hrow hb3
      go_wp2_with fail
      go_ret
      have hp := HS.out.trans HPM.out.symm
      have hrow := HR.out
      rw [mergeSort_of_perm_i hp, timesL_sorted, hp.length_eq] at hrow
      have hlw1 := HS1.out
      have hbw := HB1.out.trans (HB.out.mono HB1.out.size)
      refine ⟨v, rfl, ownsRow_base hrow (by omega), ?_⟩
      have h2 : Below w.heap.size wr (wr.alloc (.cells #[.map (some (w.heap.size + 1))] 118)) := (Below.refl _ _).alloc (by omega) _
      exact (hbw.trans h2).trans (HB9.out.mono (by omega))
end Go.Proofs.YtbiadennhnokhaaGreatDoor
/- Boxes that stay. -/
namespace Go.Proofs.YtbiadennhnokhaaGreatDoor
open Go.RowKit
set_option linter.unusedSimpArgs false

/-- block b of W is a box of a call's own that holds C -/
def Bx (W : World) (b : Nat) (C : Array Value) : Prop := OwnRow W b C.toList ∧ b < W.heap.size
theorem Bx.step {W W' : World} {b : Nat} {C : Array Value} (h : Bx W b C) (hb : Below W.heap.size W W') : Bx W' b C := ⟨h.1.below hb h.2, Nat.lt_of_lt_of_le h.2 hb.size⟩
theorem Bx.new (W : World) (C : Array Value) (T : TypeId) : Bx (W.alloc (.cells C T)) W.heap.size C := ⟨OwnRow.fresh W C T, by simp⟩
theorem below_new (W : World) (C : Array Value) (T : TypeId) : Below W.heap.size W (W.alloc (.cells C T)) := (Below.refl _ _).alloc (Nat.le_refl _) _
theorem Bx.nine {W : World} {b : Nat} {u0 u1 u2 u3 u4 u5 u6 u7 u8 : Value} (h : Bx W b #[u0, u1, u2, u3, u4, u5, u6, u7, u8]) : W.cell? ⟨b, 0, none⟩ = some u0 ∧ W.cell? ⟨b, 1, none⟩ = some u1 ∧ W.cell? ⟨b, 2, none⟩ = some u2 ∧ W.cell? ⟨b, 3, none⟩ = some u3 ∧ W.cell? ⟨b, 4, none⟩ = some u4 ∧ W.cell? ⟨b, 5, none⟩ = some u5 ∧ W.cell? ⟨b, 6, none⟩ = some u6 ∧ W.cell? ⟨b, 7, none⟩ = some u7 ∧ W.cell? ⟨b, 8, none⟩ = some u8 :=
  ⟨h.1.cell (j := 0) rfl, h.1.cell (j := 1) rfl, h.1.cell (j := 2) rfl, h.1.cell (j := 3) rfl, h.1.cell (j := 4) rfl, h.1.cell (j := 5) rfl, h.1.cell (j := 6) rfl, h.1.cell (j := 7) rfl, h.1.cell (j := 8) rfl⟩
theorem TrM.next {W W' : World} {t : Tr} {p : TP} (h : TrM W t p) (hb : Below W.heap.size W W') : TrM W' t p := h.below hb
/-- what is built is bounded -/
theorem SrcB.of {t : Tr} (h : validF t) : SrcB t := by
  have hv := validF_of h
  have := hv.t.lo
  have := hv.t.hi
  exact ⟨fun s hs => (svl_fit (hv.s s hs)).1, by omega⟩
theorem SrcB.src (t : Tr) : SrcB (srcT t) := by
  unfold srcT
  split
  · rename_i h; exact SrcB.of (validB_iff.1 h)
  · exact ⟨fun s hs => (by cases hs), by decide⟩
end Go.Proofs.YtbiadennhnokhaaGreatDoor
