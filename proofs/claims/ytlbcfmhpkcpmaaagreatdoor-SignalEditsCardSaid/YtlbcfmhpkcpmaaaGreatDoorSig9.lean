import Derived.Test.YtlbcfmhpkcpmaaaGreatDoorSig8
namespace Go.Proofs.YtlbcfmhpkcpmaaaGreatDoor
open Go.RowKit

def nzGo (k n : Int) (at_ : Int) : List Ch → Int
  | [] => 0
  | c :: l => if c.1 < at_ ∨ 1099511627776 < c.1 then 2 else if vv k n c.2 = false then 1 else nzGo k n c.1 l
def normalizeR (k n : Int) (l : List Ch) : SigR := if vt k n = false then ((0, 0, []), 7) else if nzGo k n 0 l ≠ 0 then ((0, 0, []), nzGo k n 0 l) else madeR k n l

set_option maxHeartbeats 1600000 in
set_option maxRecDepth 100000 in
theorem sig_Normalize (k n : Int) (v : Value) (l : List Ch) (w : World) (hg : Glob w) (hs : SlR w v l.length (chs l)) (hf : Fit l) :
    Calls Tryz.prog 14 #[.int .i64 k, .int .i64 n, v] w (SigPost (normalizeR k n l) w) := by
  obtain ⟨a, cap, rfl, hc, hm⟩ := hs.shape
  have hln := hf.1
  unfold maxLen at hm
  have HS := Lib.hid hs
  have HG := Lib.hid hg
  have HF := Lib.hid hf
  clear hs hg hf
  go_enter Tryz.func14, Tryz.ntmps14
  go_wp2_with fail
  refine (val_ValidType k n _).mono ?_
  rintro e w1 ⟨rfl, hb⟩
  cases hv : vt k n
  · obtain ⟨c0, c1, c2⟩ := box3 hb
    obtain ⟨f0, f1, f2⟩ := box3f hb
    have HR := Lib.hid (show normalizeR k n l = ((0, 0, []), 7) by unfold normalizeR; rw [if_pos hv])
    have HB := Lib.hid (ext_alloc hb)
    clear hv hb
    go_wp2_with fail
    refine bodyPost_ret (v := .tuple #[.agg #[.int .i64 0, .int .i64 0, .slice none 0 0], .int .i64 7]) (by simp [results, Tryz.results14, go_sem, c0, c1, c2]) rfl ?_
    rw [HR.out]
    exact SigPost.zero 7 (below_set3 HB.out _ _ _)
  have hR : normalizeR k n l = if nzGo k n 0 l ≠ 0 then ((0, 0, []), nzGo k n 0 l) else madeR k n l := by unfold normalizeR; rw [if_neg (by rw [hv]; simp)]
  have HR := Lib.hid hR
  have HB := Lib.hid hb
  clear hv hb hR
  go_wp2_with fail
  go_loopw [8, 18] (fun a_ i wr => ∃ (j : Nat) (at_ : Int), j ≤ l.length ∧ i = .int .i64 j ∧ a_ = .int .i64 at_ ∧ nzGo k n at_ (l.drop j) = nzGo k n 0 l ∧
      Below (w.alloc (.cells #[.int .i64 0, .int .i64 0, .slice none 0 0] 24)).heap.size (w.alloc (.cells #[.int .i64 0, .int .i64 0, .slice none 0 0] 24)) wr)
    (fun _ i _ => l.length - (intOf i).toNat)
  case atStart => exact ⟨0, 0, Nat.zero_le _, rfl, rfl, rfl, HB.out⟩
  case round =>
    obtain ⟨j, at_, hj, rfl, rfl, hgo, hb⟩ := hrel
    obtain ⟨c0, c1, c2⟩ := box3 hb
    obtain ⟨f0, f1, f2⟩ := box3f hb
    have hsz0 : w.heap.size < wr.heap.size := by have := hb.size; simp at this; omega
    have HGO := Lib.hid hgo
    have HB2 := Lib.hid hb
    have HBW := Lib.hid (ext_alloc hb)
    clear hgo hb HB
    by_cases hlt : j < l.length
    · obtain ⟨b, o, rfl, d0, d1⟩ := (HS.out.below HBW.out).ch hlt
      have hfit : l[j].2.size ≤ maxLen := by
        have := HF.out.2 l[j] (List.getElem_mem hlt)
        unfold maxLen; omega
      have HGO2 : Hid ((if l[j].1 < at_ ∨ 1099511627776 < l[j].1 then 2 else if vv k n l[j].2 = false then 1 else nzGo k n l[j].1 (l.drop (j + 1))) = nzGo k n 0 l) := Lib.hid (by
        have := HGO.out
        rw [List.drop_eq_getElem_cons hlt, nzGo] at this
        exact this)
      generalize l[j] = c at d0 d1 hfit HGO2
      obtain ⟨t, s⟩ := c
      simp only at d0 d1 hfit
      by_cases hA : t < at_ ∨ 1099511627776 < t
      · have e : nzGo k n 0 l = 2 := by rw [← HGO2.out, if_pos hA]
        have E2 := Lib.hid (show normalizeR k n l = ((0, 0, []), 2) by rw [HR.out, e, if_pos (by decide)])
        clear e
        rcases hA with hA | hA
        all_goals
          go_wp2_with fail
        all_goals
          obtain ⟨e0, e1, e2⟩ := set3 c0 c1 c2 (.int .i64 0) (.int .i64 0) (.slice none 0 0)
          have e0 := cell_alloc e0 (.cells #[.int .i64 t, .string s] 36)
          have e1 := cell_alloc e1 (.cells #[.int .i64 t, .string s] 36)
          have e2 := cell_alloc e2 (.cells #[.int .i64 t, .string s] 36)
          refine bodyPost_ret (v := .tuple #[.agg #[.int .i64 0, .int .i64 0, .slice none 0 0], .int .i64 2]) (by simp [results, Tryz.results14, go_sem, e0, e1, e2]) rfl ?_
          rw [E2.out]
          exact SigPost.zero 2 ((below_set3 HBW.out _ _ _).alloc (by simp; omega) _)
      · obtain ⟨hA1, hA2⟩ : at_ ≤ t ∧ t ≤ 1099511627776 := by omega
        have HGO3 := Lib.hid ((if_neg hA).symm.trans HGO2.out)
        clear hA
        have hbw2 := HBW.out.alloc (by omega) (.cells #[.int .i64 t, .string s] 36)
        have HVal := Lib.hid (val_Valid k n s _ (HG.out.below hbw2) hfit)
        clear hbw2
        cases hV : vv k n s
        · have e : nzGo k n 0 l = 1 := by rw [← HGO3.out, if_pos hV]
          have E2 := Lib.hid (show normalizeR k n l = ((0, 0, []), 1) by rw [HR.out, e, if_pos (by decide)])
          clear e
          go_wp2_with fail
          refine HVal.out.mono ?_
          rintro e w3 ⟨rfl, hb3⟩
          rw [hV]
          clear hV
          have hb4 := ext_trans HB2.out (ext_alloc hb3)
          obtain ⟨c0', c1', c2'⟩ := box3 hb4
          obtain ⟨f0', f1', f2'⟩ := box3f hb4
          have HB4 := Lib.hid (ext_alloc hb4)
          clear hb4 hb3 c0 c1 c2 f0 f1 f2
          go_wp2_with fail
          refine bodyPost_ret (v := .tuple #[.agg #[.int .i64 0, .int .i64 0, .slice none 0 0], .int .i64 1]) (by simp [results, Tryz.results14, go_sem, c0', c1', c2']) rfl ?_
          rw [E2.out]
          exact SigPost.zero 1 (below_set3 HB4.out _ _ _)
        · have e : nzGo k n t (l.drop (j + 1)) = nzGo k n 0 l := by rw [← HGO3.out, if_neg (by rw [hV]; simp)]
          have E2 := Lib.hid e
          clear e
          go_wp2_with fail
          refine HVal.out.mono ?_
          rintro e w3 ⟨rfl, hb3⟩
          rw [hV]
          have hb4 := ext_trans HB2.out (ext_alloc hb3)
          have p0 : w3.cell? ⟨wr.heap.size, 0, none⟩ = some (.int .i64 t) := (boxN hb3 0).1
          have HB4 := Lib.hid hb4
          clear hb4 hb3 c0 c1 c2 f0 f1 f2 hV
          go_wp2_with fail
          go_roundw
          case rel => exact ⟨j + 1, t, by omega, by go_num, rfl, E2.out, HB4.out⟩
          case measure => simp [intOf]; omega
    · obtain rfl : j = l.length := by omega
      have e : nzGo k n 0 l = 0 := by rw [← HGO.out, List.drop_length]; rfl
      have E2 := Lib.hid (show normalizeR k n l = madeR k n l by rw [HR.out, e]; simp)
      clear e
      go_wp2_with fail
      refine (sig_made k n _ l _ (HS.out.below HBW.out) hln).mono ?_
      rintro e w3 ⟨v3, rfl, ho3, hb3⟩
      obtain ⟨a3, cap3, rfl, -, -⟩ := (SlR.of_own ho3).shape
      have hb4 := ext_trans HB2.out hb3
      obtain ⟨c0', c1', c2'⟩ := box3 hb4
      obtain ⟨f0', f1', f2'⟩ := box3f hb4
      have HB4 := Lib.hid (ext_alloc hb4)
      have HO3 := Lib.hid ho3
      clear hb4 hb3 c0 c1 c2 f0 f1 f2 ho3
      go_wp2_with fail
      refine bodyPost_ret (v := .tuple #[.agg #[.int .i64 (madeR k n l).1.1, .int .i64 (madeR k n l).1.2.1, .slice a3 (madeR k n l).1.2.2.length cap3], .int .i64 (madeR k n l).2]) (by simp [results, Tryz.results14, go_sem, c0', c1', c2']) rfl ?_
      rw [E2.out]
      exact ⟨_, rfl, ownsRow_base (ownsRow_set3 HO3.out hsz0 _ _ _) (by omega), below_set3 HB4.out _ _ _⟩
end Go.Proofs.YtlbcfmhpkcpmaaaGreatDoor
