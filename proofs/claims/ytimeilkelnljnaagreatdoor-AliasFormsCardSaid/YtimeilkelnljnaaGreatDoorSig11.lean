import Derived.Test.YtimeilkelnljnaaGreatDoorSig10
namespace Go.Proofs.YtimeilkelnljnaaGreatDoor
open Go.RowKit

/-- the changes that a function makes of changes -/
def eachL (g : Ch → Ch × Bool) (l : List Ch) : List Ch := l.filterMap fun c => if (g c).2 = true then some (g c).1 else none
theorem eachL_snoc (g : Ch → Ch × Bool) (l : List Ch) (j : Nat) (h : j < l.length) : eachL g (l.take (j + 1)) = eachL g (l.take j) ++ (if (g l[j]).2 = true then [(g l[j]).1] else []) := by
  rw [List.take_succ_eq_append_getElem h]
  unfold eachL
  rw [List.filterMap_append]
  congr 1
  by_cases hg : (g l[j]).2 = true <;> simp [hg]
theorem eachL_len (g : Ch → Ch × Bool) (l : List Ch) : (eachL g l).length ≤ l.length := List.length_filterMap_le _ _

set_option maxHeartbeats 1600000 in
set_option maxRecDepth 100000 in
theorem sig_eachB (p : Nat) (g : Ch → Ch × Bool) (k n width : Int) (v : Value) (l : List Ch) (w : World) (hs : SlR w v l.length (chs l)) (hl : l.length ≤ 1000000)
    (hF : ∀ c ∈ l, ∀ W, Below w.heap.size w W → Calls Tryz.prog 84 #[.agg #[.int .i64 c.1, .string c.2], .pointer (some ⟨p, 0, none⟩)] W fun e w' => e = .returned (.tuple #[.agg #[.int .i64 (g c).1.1, .string (g c).1.2], .bool (g c).2]) ∧ Below W.heap.size W w') :
    Calls Tryz.prog 83 #[.agg #[.int .i64 k, .int .i64 n, v], .int .i64 width, .func (.func 84) #[] #[.pointer (some ⟨p, 0, none⟩)]] w (SigPost (madeR k width (eachL g l)) w) := by
  obtain ⟨a, cap, rfl, hc, hm⟩ := hs.shape
  unfold maxLen at hm
  have HS := Lib.hid hs
  have HF := Lib.hid hF
  obtain ⟨i0, hi, iz0, iz1, iz2⟩ := info_parts (P := Tryz.prog) change_info
  have hb0 : Below ((w.alloc (.cells #[.int .i64 k, .int .i64 n, .slice a l.length cap] 37)).alloc (.cells #[.int .i64 0, .int .i64 0, .slice none 0 0] 37)).heap.size ((w.alloc (.cells #[.int .i64 k, .int .i64 n, .slice a l.length cap] 37)).alloc (.cells #[.int .i64 0, .int .i64 0, .slice none 0 0] 37)) ((w.alloc (.cells #[.int .i64 k, .int .i64 n, .slice a l.length cap] 37)).alloc (.cells #[.int .i64 0, .int .i64 0, .slice none 0 0] 37)) := Below.refl _ _
  have HB0 := Lib.hid hb0
  clear hs hF hb0
  go_enter Tryz.func83, Tryz.ntmps83
  go_wp2_with fail
  go_loopw [8, 16] (fun o_ i wr => ∃ (j : Nat) (out : List Ch), j ≤ l.length ∧ i = .int .i64 j ∧ out.length ≤ j ∧ out = eachL g (l.take j) ∧ wr.ownsRow (w.heap.size + 2) 75 2 o_ out.length (chs out) ∧
      Below ((w.alloc (.cells #[.int .i64 k, .int .i64 n, .slice a l.length cap] 37)).alloc (.cells #[.int .i64 0, .int .i64 0, .slice none 0 0] 37)).heap.size ((w.alloc (.cells #[.int .i64 k, .int .i64 n, .slice a l.length cap] 37)).alloc (.cells #[.int .i64 0, .int .i64 0, .slice none 0 0] 37)) wr)
    (fun _ i _ => l.length - (intOf i).toNat)
  case atStart => exact ⟨0, [], Nat.zero_le _, rfl, Nat.le_refl _, rfl, World.ownsRow_nil _ _ _ _, HB0.out⟩
  case round =>
    obtain ⟨j, out, hj, rfl, hol, hn, ho, hb⟩ := hrel
    obtain ⟨ao, co, rfl, hco, hmo⟩ := (SlR.of_own ho).shape
    obtain ⟨⟨p0, p1, p2⟩, q0, q1, q2⟩ := box3r hb
    obtain ⟨c0, c1, c2⟩ := box3 (ext_alloc hb)
    have hsz : w.heap.size + 2 ≤ wr.heap.size := by have := hb.size; simp at this; omega
    have HO := Lib.hid ho
    have HB := Lib.hid hb
    have HBW := Lib.hid (ext_alloc (ext_alloc hb))
    have HN := Lib.hid hn
    clear ho hb hn HB0
    by_cases hlt : j < l.length
    · obtain ⟨b, o, rfl, d0, d1⟩ := (HS.out.below HBW.out).ch hlt
      have HG := Lib.hid (eachL_snoc g l j hlt)
      have HFj := Lib.hid (HF.out l[j] (List.getElem_mem hlt) (wr.alloc (.cells #[.int .i64 l[j].1, .string l[j].2] 75)) (HBW.out.alloc HBW.out.size _))
      generalize l[j] = c at d0 d1 HG HFj
      obtain ⟨t, s⟩ := c
      generalize g (t, s) = x at HG HFj
      obtain ⟨⟨t', s'⟩, ok⟩ := x
      simp only at d0 d1 HFj HG
      have hw := nat_wrap j (by omega)
      go_wp2_with fail
      refine HFj.out.mono ?_
      rintro e w3 ⟨rfl, hb3⟩
      have HB3 := Lib.hid (HB.out.trans ((ext_alloc hb3).mono HB.out.size))
      have hsz3 := (ext_alloc hb3).size
      have hg3 : wr.grownBy w3 none := ⟨(ext_alloc hb3).os, (ext_alloc hb3).tape, (ext_alloc hb3).output, (ext_alloc hb3).size, fun i hi _ => (ext_alloc hb3).block i hi⟩
      have HO3 := Lib.hid (HO.out.kept hg3 (by
        cases ao with
        | none => exact .inl rfl
        | some b => exact .inr (by simp [Value.ownBlock])))
      clear hb3 hg3 p0 p1 p2 q0 q1 q2 c0 c1 c2 d0 d1
      cases ok
      · have HN2 : Hid (out = eachL g (l.take (j + 1))) := Lib.hid (by rw [HG.out, ← HN.out]; simp)
        go_wp2_with fail
        go_roundw
        case rel => exact ⟨j + 1, out, by omega, by go_num, by omega, HN2.out, HO3.out.alloc _, HB3.out.alloc HB3.out.size _⟩
        case measure => simp [intOf]; omega
      · have HN2 : Hid (out ++ [(t', s')] = eachL g (l.take (j + 1))) := Lib.hid (by rw [HG.out, ← HN.out]; simp)
        have hcell := World.news_of_block (w := (w3.alloc (.cells #[.int .i64 t', .string s'] 75)).alloc (.cells #[.int .i64 t', .string s'] 75)) (cs := #[.int .i64 t', .string s']) (t := 75) (fr := (0, 0)) (by exact heap_alloc2 w3 _ _)
        have HC := Lib.hid hcell
        clear hcell
        go_wp2_with (at_builtin; refine wpList_append_own _ rfl _ _ 35 rfl (w.heap.size + 2) 75 i0 (.agg #[.int .i64 0, .string ⟨#[]⟩]) 2 24 Tryz.underlying35 hi iz0 iz1 iz2 rfl (by decide) _ _ _ rfl ((HO3.out.alloc _).alloc _) ⟨w3.heap.size + 1, 0, none⟩ 1 1 [.int .i64 t', .string s'] rfl rfl HC.out (by simp [Value.oneCell']) (by unfold maxLen; omega) (by omega) (by simp; omega) ?_)
        intro v4 w4 ho4 hg4 _
        have HO4 := Lib.hid ho4
        have HB4 := Lib.hid (Below.grown ((HB3.out.alloc HB3.out.size (.cells #[.int .i64 t', .string s'] 75)).alloc (by have := HB3.out.size; simp at this; simp; omega) (.cells #[.int .i64 t', .string s'] 75)) hg4 (by have := HB3.out.size; simp at this; simp; omega) (fun q hq => by have := (HO3.out.lt q hq).1; simp; omega))
        clear ho4 hg4
        go_wp2_with fail
        go_roundw
        case rel => exact ⟨j + 1, out ++ [(t', s')], by omega, by go_num, by simp; omega, HN2.out, by rw [chs_append]; simpa [chs, encC] using HO4.out, HB4.out⟩
        case measure => simp [intOf]; omega
    · obtain rfl : j = l.length := by omega
      have HE := Lib.hid (show out = eachL g l by have := HN.out; rwa [List.take_length] at this)
      have hol2 := eachL_len g l
      go_wp2_with fail
      refine (sig_made k width _ out _ (SlR.of_own HO.out) (by omega)).mono ?_
      rintro e w3 ⟨v3, rfl, ho3, hb3⟩
      obtain ⟨a3, cap3, rfl, -, -⟩ := (SlR.of_own ho3).shape
      obtain ⟨x0, x1, x2, y0, y1, y2⟩ := boxKeep hb3 (cell_lt p0) p0 p1 p2 q0 q1 q2
      have HO3 := Lib.hid ho3
      have HB3 := Lib.hid (ext_trans HBW.out hb3)
      clear ho3 hb3 p0 p1 p2 q0 q1 q2 c0 c1 c2
      go_wp2_with fail
      obtain ⟨g0, g1, g2⟩ := set3 x0 x1 x2 (.int .i64 (madeR k width out).1.1) (.int .i64 (madeR k width out).1.2.1) (.slice a3 (madeR k width out).1.2.2.length cap3)
      refine bodyPost_ret (v := .tuple #[.agg #[.int .i64 (madeR k width out).1.1, .int .i64 (madeR k width out).1.2.1, .slice a3 (madeR k width out).1.2.2.length cap3], .int .i64 (madeR k width out).2]) (by simp [results, Tryz.results83, go_sem, g0, g1, g2]) rfl ?_
      rw [← HE.out]
      exact ⟨_, rfl, ownsRow_base (ownsRow_set3 HO3.out (by omega) _ _ _) (by omega), below_set3' HB3.out (by omega) _ _ _⟩
end Go.Proofs.YtimeilkelnljnaaGreatDoor
