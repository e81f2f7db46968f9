import Derived.Test.YtlbcfmhpkcpmaaaGreatDoorSl1
namespace Go.Proofs.YtlbcfmhpkcpmaaaGreatDoor
open Go.RowKit

/-- what Window returns -/
def winR (k n : Int) (l : List Ch) (from_ to_ : Int) : List Ch := if sv k n l = false then [] else if to_ < from_ then [] else (l.take (lo l (min to_ 1099511627776 + 1))).drop (lo l from_)
def WinPost (r : List Ch) (w : World) (e : Ending) (w' : World) : Prop := ∃ v', e = .returned v' ∧ SlR w' v' r.length (chs r) ∧ Below w.heap.size w w'
theorem WinPost.nil {w W : World} (h : Below w.heap.size w W) : WinPost [] w (.returned (.slice none 0 0)) W := ⟨_, rfl, SlR.nil _, h⟩

/-- a part of a slice of changes -/
theorem SlR.part {w : World} {b o cap : Nat} {l : List Ch} (h : SlR w (.slice (some ⟨b, o, none⟩) l.length cap) l.length (chs l)) (i j : Nat) (hij : i < j) (hj : j ≤ l.length) :
    SlR w (.slice (some ⟨b, o + i * 2, none⟩) (j - i) (cap - i)) ((l.take j).drop i).length (chs ((l.take j).drop i)) := by
  obtain ⟨b', o', cap', hv, h1, h2, hc⟩ := h.at (by omega)
  injection hv with e1 _ e3
  injection e1 with e1
  injection e1 with e1 e2 _
  subst e1 e2 e3
  have hl : ((l.take j).drop i).length = j - i := by simp; omega
  rw [hl]
  refine ⟨_, _, rfl, by omega, by omega, fun h => by simp at h, fun _ => ⟨b, o + i * 2, rfl, fun x u hx => ?_⟩⟩
  have hs : chs l = chs (l.take i) ++ (chs ((l.take j).drop i) ++ chs (l.drop j)) := by
    rw [← chs_append, ← chs_append]
    congr 1
    have h3 : l.take i = (l.take j).take i := by rw [List.take_take, Nat.min_eq_left (by omega)]
    rw [h3, ← List.append_assoc, List.take_append_drop, List.take_append_drop]
  have hx' := (List.getElem?_eq_some_iff.1 hx).1
  have h4 : (chs (l.take i)).length = i * 2 := by rw [chs_len]; simp; omega
  have := hc (i * 2 + x) u (by
    rw [hs, List.getElem?_append_right (by omega), h4, Nat.add_sub_cancel_left, List.getElem?_append_left hx']
    exact hx)
  rwa [← Nat.add_assoc] at this

set_option maxHeartbeats 400000 in
set_option maxRecDepth 100000 in
theorem sig_Window (k n : Int) (v : Value) (l : List Ch) (from_ to_ : Int) (w : World) (hg : Glob w) (hs : SlR w v l.length (chs l)) (hf : Fit l) (hto : -9223372036854775808 ≤ to_) (hto' : to_ ≤ 9223372036854775807) :
    Calls Tryz.prog 27 #[.agg #[.int .i64 k, .int .i64 n, v], .int .i64 from_, .int .i64 to_] w (WinPost (winR k n l from_ to_) w) := by
  obtain ⟨a, cap, rfl, hc, hm⟩ := hs.shape
  have hbw : Below w.heap.size w (w.alloc (.cells #[.int .i64 k, .int .i64 n, .slice a l.length cap] 24)) := (Below.refl _ _).alloc (Nat.le_refl _) _
  have HV := Lib.hid (sig_Valid k n _ l _ (hg.below hbw) (hs.below hbw) hf)
  have HS := Lib.hid hs
  have hln := hf.1
  unfold maxLen at hm
  clear hg hs hf hbw
  cases hv : sv k n l
  · have HR := Lib.hid (show winR k n l from_ to_ = [] by unfold winR; rw [if_pos hv])
    go_enter Tryz.func27, Tryz.ntmps27
    go_wp2_with fail
    refine HV.out.mono ?_
    rintro e w1 ⟨rfl, hb⟩
    rw [hv]
    clear hv
    go_wp2_with fail
    go_ret
    rw [HR.out]
    exact WinPost.nil (ext_alloc hb)
  obtain ⟨hst, -, -, -⟩ := sv_sorted hv
  by_cases hft : to_ < from_
  · have HR := Lib.hid (show winR k n l from_ to_ = [] by unfold winR; rw [if_neg (by rw [hv]; simp), if_pos hft])
    clear hst
    go_enter Tryz.func27, Tryz.ntmps27
    go_wp2_with fail
    refine HV.out.mono ?_
    rintro e w1 ⟨rfl, hb⟩
    rw [hv]
    clear hv
    go_wp2_with fail
    go_ret
    rw [HR.out]
    exact WinPost.nil (ext_alloc hb)
  have HR := Lib.hid (show winR k n l from_ to_ = (l.take (lo l (min to_ 1099511627776 + 1))).drop (lo l from_) by unfold winR; rw [if_neg (by rw [hv]; simp), if_neg hft])
  have hle : from_ ≤ to_ := by omega
  have HST := Lib.hid hst
  have hwrap : IntKind.i64.wrap (min to_ 1099511627776 + 1) = min to_ 1099511627776 + 1 := IntWalk.i64_in _ (by omega)
  have hlo1 := lo_le l from_
  have hlo2 := lo_le l (min to_ 1099511627776 + 1)
  clear hst hft
  go_enter Tryz.func27, Tryz.ntmps27
  go_wp2_with fail
  refine HV.out.mono ?_
  rintro e w1 ⟨rfl, hb⟩
  obtain ⟨c0, c1, c2⟩ := box3 hb
  rw [hv]
  have HS1 := Lib.hid (HS.out.below (ext_alloc hb))
  have HB0 := Lib.hid (ext_alloc hb)
  clear hv hb
  go_upto_region 3 with fail
  go_region_held3 (fun w' => w'.cell? ⟨w.heap.size, 0, none⟩ = some (.int .i64 k) ∧ w'.cell? ⟨w.heap.size, 1, none⟩ = some (.int .i64 n) ∧ w'.cell? ⟨w.heap.size, 2, none⟩ = some (.slice a l.length cap)) (first | exact ⟨r0, r1, r2⟩ | exact ⟨s0, s1, s2⟩ | go_keep)
    (first
      | (go_at_call 57; (with_reducible refine (sig_first k n _ l _ w1.drew ?_ hln HST.out).mono ?_); (exact HS1.out); rintro e w2 ⟨rfl, hb2⟩; have s0 := (hb2.cell (p := ⟨w.heap.size, 0, none⟩) (cell_lt c0)).trans c0; have s1 := (hb2.cell (p := ⟨w.heap.size, 1, none⟩) (cell_lt c0)).trans c1; have s2 := (hb2.cell (p := ⟨w.heap.size, 2, none⟩) (cell_lt c0)).trans c2; have HB2 := Lib.hid hb2; clear hb2)
      | (go_at_call 57; (with_reducible refine (sig_first k n _ l _ _ ?_ hln HST.out).mono ?_); (exact SlR.below (w := w1.drew) HS1.out HB2.out); rintro e w3 ⟨rfl, hb3⟩; have hb23 := ext_trans HB2.out hb3; have r0 := (hb23.cell (p := ⟨w.heap.size, 0, none⟩) (cell_lt c0)).trans c0; have r1 := (hb23.cell (p := ⟨w.heap.size, 1, none⟩) (cell_lt c0)).trans c1; have r2 := (hb23.cell (p := ⟨w.heap.size, 2, none⟩) (cell_lt c0)).trans c2; have HB3 := Lib.hid hb23; clear hb23 hb3))
  all_goals
    by_cases hab : lo l from_ < lo l (min to_ 1099511627776 + 1)
    · obtain ⟨b, o, cap', hv', -, -, -⟩ := HS.out.at (by omega)
      injection hv' with e1 e2 e3
      subst e1
      clear e2 e3
      have hne : cap ≠ lo l from_ := by omega
      have HP := Lib.hid ((HS.out.below (ext_trans HB0.out.drew HB3.out)).part _ _ hab hlo2)
      have hpl : ((l.take (lo l (min to_ 1099511627776 + 1))).drop (lo l from_)).length = lo l (min to_ 1099511627776 + 1) - lo l from_ := by simp; omega
      have hpl2 : ((l.take (lo l (min to_ 1099511627776 + 1))).drop (lo l from_)).length ≤ 1000000 := by omega
      have HPL := Lib.hid hpl
      clear hpl
      go_wp2_with fail
      generalize (l.take (lo l (min to_ 1099511627776 + 1))).drop (lo l from_) = r at *
      rw [← HPL.out] at HP ⊢
      refine (clone_ch _ r _ HP.out hpl2).mono ?_
      rintro e w4 ⟨v4, rfl, ho, hb4⟩
      go_wp2_with fail
      go_ret
      exact ⟨_, rfl, by rw [HR.out]; exact SlR.of_own ho, ext_trans (ext_trans HB0.out.drew HB3.out) hb4⟩
    · have HE := Lib.hid (show (l.take (lo l (min to_ 1099511627776 + 1))).drop (lo l from_) = [] by rw [List.drop_eq_nil_iff, List.length_take]; omega)
      have hab' : lo l (min to_ 1099511627776 + 1) ≤ lo l from_ := by omega
      clear hab
      go_wp2_with fail
      go_ret
      rw [HR.out, HE.out]
      exact WinPost.nil (ext_trans HB0.out.drew HB3.out)
end Go.Proofs.YtlbcfmhpkcpmaaaGreatDoor
