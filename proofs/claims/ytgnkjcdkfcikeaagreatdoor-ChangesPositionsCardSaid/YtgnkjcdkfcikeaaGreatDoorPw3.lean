import Derived.Test.YtgnkjcdkfcikeaaGreatDoorPw2
namespace Go.Proofs.YtgnkjcdkfcikeaaGreatDoor
open Go.RowKit
set_option linter.unusedSimpArgs false

/-- the index behind a section, and whether it ends -/
def secN (ws : List Wd) (i : Nat) : Nat × Bool := match behind (ws.drop (i + 1)) with
  | none => (ws.length, false)
  | some r => (ws.length - r.length, true)
theorem behind_drop {ws : List Wd} {k : Nat} (h : k < ws.length) : behind (ws.drop k) = if ws[k].1 = [36, 101, 110, 100] then some (ws.drop (k + 1)) else behind (ws.drop (k + 1)) := by
  rw [List.drop_eq_getElem_cons h, behind]
theorem bsB_beq (t l : Bs) : ((bsB t).toList == l) = decide (t = l) := by
  rw [beqB, bsB_list]
set_option maxHeartbeats 400000 in
theorem lex_Section (wv : Value) (ws : List Wd) (i : Nat) (w : World) (hs : SlR w wv ws.length (wds ws)) (hi : i < ws.length) (hl : ws.length ≤ 1000000) :
    Calls Tryz.prog 59 #[wv, .int .i64 i] w fun e w' => e = .returned (.tuple #[.int .i64 (secN ws i).1, .bool (secN ws i).2]) ∧ w' = w := by
  obtain ⟨a, cap, rfl, -, -⟩ := hs.shape
  have HS := Lib.hid hs
  clear hs
  have hi0 : decide ((0 : Int) ≤ (i : Int)) = true := by rw [decide_eq_true_iff]; omega
  go_enter Tryz.func59, Tryz.ntmps59
  go_wp2_with fail
  go_loop [6] (fun q => ∃ k : Nat, i + 1 ≤ k ∧ k ≤ ws.length ∧ q = .int .i64 k ∧ behind (ws.drop k) = behind (ws.drop (i + 1))) (fun q => ws.length - (intOf q).toNat)
  case atStart => exact ⟨i + 1, Nat.le_refl _, by omega, by go_num, rfl⟩
  case round =>
    obtain ⟨k, hk1, hk2, rfl, hb⟩ := hrel
    have HB := Lib.hid hb
    clear hb
    have hk0 : decide ((0 : Int) < (k : Int)) = true := by rw [decide_eq_true_iff]; omega
    by_cases hlt : k < ws.length
    · obtain ⟨b, o, rfl, c0, -, -, -⟩ := HS.out.wds hlt
      have HD := Lib.hid (behind_drop hlt)
      have hb3 := bsB_beq ws[k].1 [36, 101, 110, 100]
      generalize ws[k].1 = tx at HD c0 hb3
      by_cases he : tx = [36, 101, 110, 100]
      · have HR := Lib.hid (show secN ws i = (k + 1, true) by
          unfold secN
          rw [← HB.out, HD.out, if_pos he]
          have : (ws.drop (k + 1)).length = ws.length - (k + 1) := by simp
          simp only [this]
          congr 1
          omega)
        rw [decide_eq_true he] at hb3
        clear he
        generalize bsB tx = sb at c0 hb3
        go_wp2_with fail
        refine bodyPost_ret (v := .tuple #[.int .i64 ((k : Int) + 1), .bool true]) (by simp [results, Tryz.results59, go_sem]) rfl ?_
        rw [HR.out]
        exact ⟨by simp, rfl⟩
      · have HB2 := Lib.hid (show behind (ws.drop (k + 1)) = behind (ws.drop (i + 1)) by rw [← HB.out, HD.out, if_neg he])
        rw [decide_eq_false he] at hb3
        clear he
        generalize bsB tx = sb at c0 hb3
        go_wp2_with fail
        go_round
        case rel => exact ⟨k + 1, by omega, by omega, by go_num, HB2.out⟩
        case measure => simp [intOf]; omega
    · obtain rfl : k = ws.length := by omega
      have HR := Lib.hid (show secN ws i = (ws.length, false) by
        unfold secN
        rw [← HB.out, List.drop_length]
        rfl)
      go_wp2_with fail
      refine bodyPost_ret (v := .tuple #[.int .i64 (ws.length : Int), .bool false]) (by simp [results, Tryz.results59, go_sem]) rfl ?_
      rw [HR.out]
      exact ⟨rfl, rfl⟩

def PS.secP (s : PS) (w : Wd) (ok : Bool) : PS := if ok = true ∧ w.1 = [36, 99, 111, 109, 109, 101, 110, 116] then s else s.prob 3 w
theorem behind_eq : ∀ {t r : List Wd}, behind t = some r → r = t.drop (t.length - r.length)
  | [], r, h => by cases h
  | x :: t, r, h => by
    rw [behind] at h
    split at h
    · injection h with h
      subst h
      simp
    · have h1 := behind_eq h
      have h2 := behind_len h
      rw [show (x :: t).length - r.length = (t.length - r.length) + 1 by simp; omega]
      simpa using h1
theorem sect_eq {ws : List Wd} {i : Nat} {s : PS} {w : Wd} : sectP s w (ws.drop (i + 1)) = (s.secP w (secN ws i).2, ws.drop (secN ws i).1) := by
  unfold sectP secN PS.secP
  cases hb : behind (ws.drop (i + 1)) with
  | none => simp
  | some r =>
    have hl := behind_len hb
    have h1 := behind_eq hb
    rw [List.drop_drop] at h1
    simp only [true_and]
    refine Prod.ext rfl ?_
    show r = ws.drop (ws.length - r.length)
    conv => lhs; rw [h1]
    congr 1
    simp at hl ⊢
    omega
theorem ParX.at_ {c : PC} {i : Int} {s : PS} {vo vr : Value} {W : World} (h : ParX c i s vo vr W) (j : Int) : ParX c j s vo vr (W.setCell ⟨c.B, 1, none⟩ (.int .i64 j)) := h.set 1 (.int .i64 j) rfl rfl rfl
set_option maxHeartbeats 800000 in
theorem ps_section (c : PC) (ws : List Wd) (i : Nat) (s : PS) (vo vr : Value) (w : Wd) (W : World) (h : ParX c (i : Int) s vo vr W) (hl : s.wrong.length ≤ 1000000) (hi : i < ws.length) (hw : ws.length ≤ 1000000) (hn : c.wn = ws.length) (hs : SlR c.w0 (.slice c.wa ws.length c.wc) ws.length (wds ws)) :
    Calls Tryz.prog 48 #[.pointer (some ⟨c.B, 0, none⟩), wdV w] W (PPost c (((secN ws i).1 : Int) - 1) (s.secP w (secN ws i).2)) := by
  obtain ⟨tx, o1, o2, o3⟩ := w
  have hsec : (secN ws i).1 ≤ 1000000 := by
    unfold secN
    split
    · exact hw
    · simp; omega
  have HQ := Lib.hid (fun W' (hb : Below c.w0.heap.size c.w0 W') => lex_Section (.slice c.wa ws.length c.wc) ws i W' (hs.below hb) hi hw)
  generalize (secN ws i).1 = q at HQ hsec ⊢
  generalize (secN ws i).2 = ok at HQ ⊢
  clear hs
  have hal : Below W.heap.size W (W.alloc (.cells #[.string (bsB tx), .int .i64 o1, .int .i64 o2, .int .i64 o3] 39)) := (Below.refl _ _).alloc (Nat.le_refl _) _
  have hx := OwnRow.fresh W #[.string (bsB tx), .int .i64 o1, .int .i64 o2, .int .i64 o3] 39
  have hz : W.heap.size < (W.alloc (.cells #[.string (bsB tx), .int .i64 o1, .int .i64 o2, .int .i64 o3] 39)).heap.size := by simp
  have H := Lib.hid (h.later hal)
  generalize hw1 : W.alloc (.cells #[.string (bsB tx), .int .i64 o1, .int .i64 o2, .int .i64 o3] 39) = w1 at *
  have x0 := hx.cell (j := 0) rfl
  have x1 := hx.cell (j := 1) rfl
  have x2 := hx.cell (j := 2) rfl
  have x3 := hx.cell (j := 3) rfl
  clear h hal hx
  have c0 := H.out.row.cell (j := 0) rfl
  have c1 := H.out.row.cell (j := 1) rfl
  rw [hn] at c0
  have hcm := bsB_beq tx [36, 99, 111, 109, 109, 101, 110, 116]
  have hq1 : IntKind.i64.wrap ((q : Int) - 1) = (q : Int) - 1 := IntWalk.i64_in _ (by omega)
  have HC := Lib.hid (fun w' (hb : Below w1.heap.size w1 w') => H.out.later hb)
  cases ok
  · have HR := Lib.hid (show s.prob 3 (tx, o1, o2, o3) = s.secP (tx, o1, o2, o3) false by unfold PS.secP; simp)
    go_enter Tryz.func48, Tryz.ntmps48
    go_wp2_with fail
    go_quiet ((go_at_call 59; exact Calls.quiet_of_same (HQ.out _ (below_drewN H.out.b _))))
    go_wp2_with fail
    refine (ps_problem c i s vo vr 3 (tx, o1, o2, o3) _ (H.out.later (below_drewN (Below.refl _ w1) nq)) hl).mono ?_
    rintro e w2 ⟨rfl, vo2, vr2, h2⟩
    have H2 := Lib.hid (h2.at_ ((q : Int) - 1))
    have c1 := h2.row.cell (j := 1) rfl
    have f1 := h2.row.free (j := 1) (by simp [parC])
    clear h2
    go_wp2_with fail
    go_end0
    exact ⟨rfl, _, _, HR.out ▸ H2.out⟩
  · by_cases ht : tx = [36, 99, 111, 109, 109, 101, 110, 116]
    · have HR := Lib.hid (show s = s.secP (tx, o1, o2, o3) true by unfold PS.secP; simp [ht])
      rw [decide_eq_true ht] at hcm
      clear ht
      have hcn : ((bsB tx).toList != [36, 99, 111, 109, 109, 101, 110, 116]) = false := by rw [bne, hcm]; rfl
      go_enter Tryz.func48, Tryz.ntmps48
      go_wp2_with fail
      go_quiet ((go_at_call 59; exact Calls.quiet_of_same (HQ.out _ (below_drewN H.out.b _))))
      have H2 := Lib.hid ((H.out.later (below_drewN (Below.refl _ w1) nq)).at_ ((q : Int) - 1))
      have f1 := H.out.row.free (j := 1) (by simp [parC])
      go_wp2_with fail
      go_end0
      exact ⟨rfl, _, _, HR.out ▸ H2.out⟩
    · have HR := Lib.hid (show s.prob 3 (tx, o1, o2, o3) = s.secP (tx, o1, o2, o3) true by unfold PS.secP; simp [ht])
      rw [decide_eq_false ht] at hcm
      clear ht
      have hcn : ((bsB tx).toList != [36, 99, 111, 109, 109, 101, 110, 116]) = true := by rw [bne, hcm]; rfl
      go_enter Tryz.func48, Tryz.ntmps48
      go_wp2_with fail
      go_quiet ((go_at_call 59; exact Calls.quiet_of_same (HQ.out _ (below_drewN H.out.b _))))
      go_wp2_with fail
      refine (ps_problem c i s vo vr 3 (tx, o1, o2, o3) _ (H.out.later (below_drewN (Below.refl _ w1) nq)) hl).mono ?_
      rintro e w2 ⟨rfl, vo2, vr2, h2⟩
      have H2 := Lib.hid (h2.at_ ((q : Int) - 1))
      have c1 := h2.row.cell (j := 1) rfl
      have f1 := h2.row.free (j := 1) (by simp [parC])
      clear h2
      go_wp2_with fail
      go_end0
      exact ⟨rfl, _, _, HR.out ▸ H2.out⟩
end Go.Proofs.YtgnkjcdkfcikeaaGreatDoor
