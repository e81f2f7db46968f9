import Derived.Test.YtgnkjcdkfcikeaaGreatDoorPs
import Derived.Test.YtgnkjcdkfcikeaaGreatDoorLret
/- slices.ContainsFunc of words, at ChangesPositions' closure. -/
namespace Go.Proofs.YtgnkjcdkfcikeaaGreatDoor
open Go.RowKit
set_option linter.unusedSimpArgs false

def wdAt (q : Pb) (x : Wd) : Bool := decide (x.2.1 = q.2.1) && (decide (x.2.2.1 = q.2.2.1) && decide (x.2.2.2 = q.2.2.2))
set_option maxHeartbeats 800000 in
theorem pos_at (pt : Nat) (q : Pb) (x : Wd) (W : World) (hq : OwnRow W pt (prbC q)) (hlt : pt < W.heap.size) :
    Calls Tryz.prog 19 #[wdV x, .pointer (some ⟨pt, 0, none⟩)] W fun e w' => e = .returned (.bool (wdAt q x)) ∧ Below W.heap.size W w' := by
  obtain ⟨x0, x1, x2, x3⟩ := x
  obtain ⟨q0, q1, q2, q3⟩ := q
  have hb := (Below.refl W.heap.size W).alloc (Nat.le_refl _) (.cells #[.string (bsB x0), .int .i64 x1, .int .i64 x2, .int .i64 x3] 39)
  have hx := OwnRow.fresh W #[.string (bsB x0), .int .i64 x1, .int .i64 x2, .int .i64 x3] 39
  have hq2 := hq.below hb hlt
  have c1 := hx.cell (j := 1) rfl
  have c2 := hx.cell (j := 2) rfl
  have c3 := hx.cell (j := 3) rfl
  have d1 := hq2.cell (j := 1) rfl
  have d2 := hq2.cell (j := 2) rfl
  have d3 := hq2.cell (j := 3) rfl
  have HB := Lib.hid hb
  clear hb hx hq2 hq
  dsimp only at c1 c2 c3 d1 d2 d3
  by_cases h1 : x1 = q1
  · subst h1
    by_cases h2 : x2 = q2
    · subst h2
      by_cases h3 : x3 = q3
      · subst h3
        have HVA := Lib.hid (show wdAt (q0, x1, x2, x3) (x0, x1, x2, x3) = true by simp [wdAt])
        go_enter Tryz.func19, Tryz.ntmps19
        go_wp2_with fail
        go_ret
        exact ⟨ret_bool HVA.out.symm, HB.out⟩
      · have hb3 : (x3 == q3) = false := by rw [beq_eq_false_iff_ne]; exact h3
        have HVA := Lib.hid (show wdAt (q0, x1, x2, q3) (x0, x1, x2, x3) = false by simp [wdAt, h3])
        clear h3
        go_enter Tryz.func19, Tryz.ntmps19
        go_wp2_with fail
        go_ret
        exact ⟨ret_bool HVA.out.symm, HB.out⟩
    · have hb2 : (x2 == q2) = false := by rw [beq_eq_false_iff_ne]; exact h2
      have HVA := Lib.hid (show wdAt (q0, x1, q2, q3) (x0, x1, x2, x3) = false by simp [wdAt, h2])
      clear h2
      go_enter Tryz.func19, Tryz.ntmps19
      go_wp2_with fail
      go_ret
      exact ⟨ret_bool HVA.out.symm, HB.out⟩
  · have hb1 : (x1 == q1) = false := by rw [beq_eq_false_iff_ne]; exact h1
    have HVA := Lib.hid (show wdAt (q0, q1, q2, q3) (x0, x1, x2, x3) = false by simp [wdAt, h1])
    clear h1
    go_enter Tryz.func19, Tryz.ntmps19
    go_wp2_with fail
    go_ret
    exact ⟨ret_bool HVA.out.symm, HB.out⟩

def IxPost (b : Bool) (w : World) (e : Ending) (w' : World) : Prop := (∃ i : Int, e = .returned (.int .i64 i) ∧ decide (0 ≤ i) = b ∧ -1 ≤ i) ∧ Below w.heap.size w w'
theorem any_dropW {p : Wd → Bool} {L : List Wd} {j : Nat} (h : j < L.length) : (L.drop j).any p = (p L[j] || (L.drop (j + 1)).any p) := by
  rw [List.drop_eq_getElem_cons h, List.any_cons]
set_option maxHeartbeats 400000 in
set_option maxRecDepth 100000 in
theorem ix_wd (pt : Nat) (p : Wd → Bool) (v : Value) (L : List Wd) (w : World) (hs : SlR w v L.length (wds L))
    (hF : ∀ x ∈ L, ∀ W, Below w.heap.size w W → Calls Tryz.prog 19 #[wdV x, .pointer (some ⟨pt, 0, none⟩)] W fun e w' => e = .returned (.bool (p x)) ∧ Below W.heap.size W w') :
    Calls Tryz.prog 37 #[v, .func (.func 19) #[] #[.pointer (some ⟨pt, 0, none⟩)]] w (IxPost (L.any p) w) := by
  obtain ⟨a, cap, rfl, hc, hm⟩ := hs.shape
  unfold maxLen at hm
  have HS := Lib.hid hs
  have HF := Lib.hid hF
  clear hs hF
  go_enter Tryz.func37, Tryz.ntmps37
  go_wp2_with fail
  go_loopw [8] (fun i wr => ∃ j : Nat, j ≤ L.length ∧ i = .int .i64 j ∧ (L.drop j).any p = L.any p ∧ Below w.heap.size w wr) (fun i _ => L.length - (intOf i).toNat)
  case atStart => exact ⟨0, Nat.zero_le _, rfl, rfl, Below.refl _ _⟩
  case round =>
    obtain ⟨j, hj, rfl, hgo, hb⟩ := hrel
    have HGO := Lib.hid hgo
    have HB := Lib.hid hb
    clear hgo hb
    by_cases hlt : j < L.length
    · obtain ⟨b, o, rfl, d0, d1, d2, d3⟩ := SlR.wds (HS.out.below HB.out) hlt
      have HC := Lib.hid (fun W hW => HF.out L[j] (List.getElem_mem hlt) W hW)
      have HGO2 := Lib.hid ((any_dropW (p := p) hlt).symm.trans HGO.out)
      generalize L[j] = x at d0 d1 d2 d3 HC HGO2
      obtain ⟨x0, x1, x2, x3⟩ := x
      dsimp only at d0 d1 d2 d3 HC HGO2
      go_wp2_with fail
      refine (HC.out _ HB.out).mono ?_
      rintro e w1 ⟨rfl, hb1⟩
      have HB1 := Lib.hid (ext_trans HB.out hb1)
      clear hb1 d0 d1 d2 d3
      cases hp : p (x0, x1, x2, x3)
      · have HGO3 := Lib.hid (show (L.drop (j + 1)).any p = L.any p by rw [← HGO2.out, hp, Bool.false_or])
        clear hp
        go_wp2_with fail
        go_roundw
        case rel => exact ⟨j + 1, by omega, by go_num, HGO3.out, HB1.out⟩
        case measure => simp [intOf]; omega
      · have HR := Lib.hid (show true = L.any p by rw [← HGO2.out, hp]; rfl)
        clear hp
        go_wp2_with fail
        go_ret
        exact ⟨⟨j, rfl, by rw [← HR.out]; simp, by omega⟩, HB1.out⟩
    · obtain rfl : j = L.length := by omega
      have HR := Lib.hid (show false = L.any p by rw [← HGO.out, List.drop_length]; rfl)
      go_wp2_with fail
      go_ret
      exact ⟨⟨-1, rfl, by rw [← HR.out]; rfl, by omega⟩, HB.out⟩
set_option maxHeartbeats 400000 in
theorem con_wd (pt : Nat) (p : Wd → Bool) (v : Value) (L : List Wd) (w : World) (hs : SlR w v L.length (wds L))
    (hF : ∀ x ∈ L, ∀ W, Below w.heap.size w W → Calls Tryz.prog 19 #[wdV x, .pointer (some ⟨pt, 0, none⟩)] W fun e w' => e = .returned (.bool (p x)) ∧ Below W.heap.size W w') :
    Calls Tryz.prog 18 #[v, .func (.func 19) #[] #[.pointer (some ⟨pt, 0, none⟩)]] w fun e w' => e = .returned (.bool (L.any p)) ∧ Below w.heap.size w w' := by
  have HI := Lib.hid (ix_wd pt p v L w hs hF)
  generalize L.any p = r at HI ⊢
  obtain ⟨a, cap, rfl, hc, hm⟩ := hs.shape
  clear hs hF
  go_enter Tryz.func18, Tryz.ntmps18
  go_wp2_with fail
  refine HI.out.mono ?_
  rintro e w1 ⟨⟨i, rfl, hi, hi1⟩, hb⟩
  have HH := Lib.hid hi
  clear hi
  go_wp2_with fail
  go_ret
  exact ⟨ret_bool HH.out, hb⟩
end Go.Proofs.YtgnkjcdkfcikeaaGreatDoor

/- The law ChangesPositions, walked. -/
namespace Go.Proofs.YtgnkjcdkfcikeaaGreatDoor
open Go.RowKit
set_option linter.unusedSimpArgs false

theorem at_any {ws : List Wd} {q : Pb} (h : probIn ws q) : ws.any (wdAt q) = true := by
  obtain ⟨-, x, hx, he⟩ := h
  rw [List.any_eq_true]
  refine ⟨x, hx, ?_⟩
  obtain ⟨q0, q1, q2, q3⟩ := q
  obtain ⟨x0, x1, x2, x3⟩ := x
  simp only [Prod.mk.injEq] at he
  obtain ⟨rfl, rfl, rfl⟩ := he
  simp [wdAt]
set_option maxHeartbeats 1600000 in
set_option maxRecDepth 100000 in
theorem law_ChangesPositions (s : Bs) (v2 : Value) (L : List Dcl) (w : World) (hg : Glob w) (he : GlobE w) (hd : SlR w v2 L.length (dcls L))
    (ht : ∀ d ∈ L, d.nm.length ≤ 140737488351232 ∧ d.code.length ≤ 140737488351232) :
    Calls Tryz.prog 7 #[.string (bsB s), v2] w fun e w' => e = .returned (.bool true) ∧ Below w.heap.size w w' := by
  obtain ⟨a2, cap2, rfl, hcap2, hmax2⟩ := hd.shape
  have HD := Lib.hid hd
  have HG := Lib.hid hg
  have HE := Lib.hid he
  have HT := Lib.hid ht
  have z0 := bsB_size s
  clear hd hg he ht
  go_enter Tryz.func7, Tryz.ntmps7
  go_wp2_with fail
  refine (law_awake26 _ HG.out HE.out).mono ?_
  rintro e w1 ⟨rfl, hb1⟩
  have HB1 := Lib.hid hb1
  clear hb1
  by_cases h120 : (2000 : Int) < (s.length : Int)
  · have hd0 : decide ((2000 : Int) < (s.length : Int)) = true := decide_eq_true h120
    clear h120
    go_wp2_with fail
    go_ret
    exact ⟨rfl, HB1.out⟩
  have hd0 : decide ((2000 : Int) < (s.length : Int)) = false := decide_eq_false h120
  have HWL := Lib.hid (show s.length ≤ 2000 by omega)
  clear h120
  go_wp2_with fail
  refine (ref_Few26 _ _ [] L w1 (SlR.nil w1) (HD.out.below HB1.out) (by simp) HT.out).mono ?_
  rintro e w2 ⟨bf, rfl, hb2, hfew⟩
  have HB2 := Lib.hid (ext_trans HB1.out hb2)
  have HFE := Lib.hid hfew
  clear hb2 hfew
  cases bf
  · go_wp2_with fail
    go_ret
    exact ⟨rfl, HB2.out⟩
  have HF := Lib.hid (HFE.out rfl)
  clear HFE
  have HFL := Lib.hid (few_len HF.out)
  go_wp2_with fail
  refine (lex_Scan s _ (by have := HWL.out; omega)).mono ?_
  rintro e w3 ⟨v1, ws, rfl, ho, hw, hwl, hb3⟩
  have hs1 := SlR.of_own ho
  obtain ⟨a1, c1, rfl, -, -⟩ := hs1.shape
  have HS := Lib.hid hs1
  have HB3 := Lib.hid (ext_trans HB2.out hb3)
  have HWN := Lib.hid (show ws.length ≤ 1000000 by have := HWL.out; omega)
  have HSH := Lib.hid (show ∀ x ∈ ws, x.1.length ≤ 140737488351232 from fun x hx => by have := words_short hw x hx; have := HWL.out; omega)
  clear ho hw hwl hb3 hs1 hd0 z0
  go_wp2_with fail
  refine (ch_Parse _ _ ws L w3 HS.out (HD.out.below HB3.out) (HG.out.below HB3.out) (HE.out.below HB3.out) (few_code HF.out) HFL.out HWN.out HSH.out).mono ?_
  rintro e w4 ⟨vo, vr, rfl, ho, hr, hb4⟩
  have hso := SlR.of_own ho
  have hsr := SlR.of_own hr
  have HPI := Lib.hid (parse_probs cv (L.map Dcl.dc) ws)
  generalize (parseL cv (L.map Dcl.dc) ws).out = O at hso
  generalize (parseL cv (L.map Dcl.dc) ws).wrong = Wr at hsr HPI
  obtain ⟨a2, c2, rfl, -, -⟩ := hso.shape
  obtain ⟨a3, c3, rfl, hc3, hm3⟩ := hsr.shape
  unfold maxLen at hm3
  have HP := Lib.hid hsr
  have HS4 := Lib.hid (HS.out.below hb4)
  have HB4 := Lib.hid (ext_trans HB3.out hb4)
  clear ho hr hb4 hso hsr
  go_wp2_with fail
  go_loopw [34] (fun i wr => ∃ j : Nat, j ≤ Wr.length ∧ i = .int .i64 j ∧ Below w4.heap.size w4 wr) (fun i _ => Wr.length - (intOf i).toNat)
  case atStart => exact ⟨0, Nat.zero_le _, rfl, Below.refl _ _⟩
  case round =>
    obtain ⟨j, hj, rfl, hb⟩ := hrel
    have HB := Lib.hid hb
    clear hb
    by_cases hlt : j < Wr.length
    · obtain ⟨b, o, rfl, d0, d1, d2, d3⟩ := SlR.prbs (HP.out.below HB.out) hlt
      have hpi := HPI.out _ (List.getElem_mem hlt)
      have hw : IntKind.i64.wrap ((j : Int) + 1) = (j : Int) + 1 := IntWalk.i64_in _ (by omega)
      generalize Wr[j] = x at d0 d1 d2 d3 hpi
      obtain ⟨x0, x1, x2, x3⟩ := x
      dsimp only at d0 d1 d2 d3
      have hx0 : (x0 == 0) = false := by rw [beq_eq_false_iff_ne]; exact hpi.1
      have HAN := Lib.hid (at_any hpi)
      have hal : Below wr.heap.size wr (wr.alloc (.cells #[.int .i64 x0, .int .i64 x1, .int .i64 x2, .int .i64 x3] 42)) := (Below.refl _ _).alloc (Nat.le_refl _) _
      have hx := OwnRow.fresh wr #[.int .i64 x0, .int .i64 x1, .int .i64 x2, .int .i64 x3] 42
      have hz : wr.heap.size < (wr.alloc (.cells #[.int .i64 x0, .int .i64 x1, .int .i64 x2, .int .i64 x3] 42)).heap.size := by simp
      have HC := Lib.hid (con_wd wr.heap.size (wdAt (x0, x1, x2, x3)) _ ws _ (HS4.out.below (HB.out.trans (hal.mono HB.out.size))) (fun x _ W hW => pos_at wr.heap.size (x0, x1, x2, x3) x W (OwnRow.below hx hW hz) (Nat.lt_of_lt_of_le hz hW.size)))
      rw [HAN.out] at HC
      have HBX := Lib.hid (HB.out.trans (hal.mono HB.out.size))
      clear hpi hal hx hz
      go_wp2_with fail
      refine HC.out.mono ?_
      rintro e w5 ⟨rfl, hb5⟩
      have HB5 := Lib.hid (HBX.out.trans (hb5.mono HBX.out.size))
      clear hb5 d0 d1 d2 d3
      go_wp2_with fail
      go_roundw
      case rel => exact ⟨j + 1, by omega, by go_num, HB5.out⟩
      case measure => simp [intOf]; omega
    · obtain rfl : j = Wr.length := by omega
      go_wp2_with fail
      go_ret
      exact ⟨rfl, ext_trans HB4.out HB.out⟩
end Go.Proofs.YtgnkjcdkfcikeaaGreatDoor
