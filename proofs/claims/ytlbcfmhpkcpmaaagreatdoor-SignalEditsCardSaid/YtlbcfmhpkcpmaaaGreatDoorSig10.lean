import Derived.Test.YtlbcfmhpkcpmaaaGreatDoorSl3
import Derived.Deep.DeepCutAuto
namespace Go.Proofs.YtlbcfmhpkcpmaaaGreatDoor
open Go.RowKit

/-- the changes that Put normalizes -/
def putL (k n : Int) (l : List Ch) (from_ to_ : Int) (v : ByteArray) : List Ch :=
  l.take (lo l from_) ++ [(from_, v)] ++ (if to_ ≤ 1099511627776 then [(to_, valAt k n l to_)] else []) ++ l.drop (lo l (to_ + 1))
def putR (k n : Int) (l : List Ch) (from_ to_ : Int) (v : ByteArray) : SigR :=
  if sv k n l = false then ((0, 0, []), 1) else if k = 3 then ((0, 0, []), 7) else if from_ < 0 ∨ to_ ≤ from_ ∨ 1099511627777 < to_ then ((0, 0, []), 2) else if vv k n v = false then ((0, 0, []), 1) else madeR k n (putL k n l from_ to_ v)

theorem box3r {w W : World} {X : Obj} {x y z : Value} {T : TypeId} (hb : Below ((w.alloc X).alloc (.cells #[x, y, z] T)).heap.size ((w.alloc X).alloc (.cells #[x, y, z] T)) W) :
    (W.cell? ⟨w.heap.size + 1, 0, none⟩ = some x ∧ W.cell? ⟨w.heap.size + 1, 1, none⟩ = some y ∧ W.cell? ⟨w.heap.size + 1, 2, none⟩ = some z) ∧ W.frozen? ⟨w.heap.size + 1, 0, none⟩ = false ∧ W.frozen? ⟨w.heap.size + 1, 1, none⟩ = false ∧ W.frozen? ⟨w.heap.size + 1, 2, none⟩ = false := by
  have h := fun i => boxN hb i
  simp only [World.size_alloc] at h
  exact ⟨⟨(h 0).1, (h 1).1, (h 2).1⟩, (h 0).2, (h 1).2, (h 2).2⟩

theorem below_set3' {w W : World} {B : Nat} (h : Below B w W) {b : Nat} (hb : B ≤ b) (p q r : Value) : Below B w (((W.setCell ⟨b, 0, none⟩ p).setCell ⟨b, 1, none⟩ q).setCell ⟨b, 2, none⟩ r) :=
  ((h.setCell hb _).setCell hb _).setCell hb _

theorem concat_put (W : World) (a : Option Addr) (cap : Nat) (l : List Ch) (k : Nat) (from_ : Int) (s : ByteArray) (hs : SlR W (.slice a l.length cap) l.length (chs l)) (hk : k ≤ l.length) (hl : l.length ≤ 100000) :
    Calls Tryz.prog 61 #[.slice (some ⟨W.heap.size + 1, 0, none⟩) 2 2] ((W.alloc (.cells #[.int .i64 from_, .string s] 36)).alloc (.cells #[.slice a k cap, .slice (some ⟨W.heap.size, 0, none⟩) 1 1] 22))
      fun e w' => ∃ v', e = .returned v' ∧ w'.ownsRow W.heap.size 36 2 v' (l.take k ++ [(from_, s)]).length (chs (l.take k ++ [(from_, s)])) ∧ Below W.heap.size W w' := by
  have h0 := OwnRow.fresh (W.alloc (.cells #[.int .i64 from_, .string s] 36)) #[.slice a k cap, .slice (some ⟨W.heap.size, 0, none⟩) 1 1] 22
  simp only [World.size_alloc] at h0
  have hb1 : Below W.heap.size W ((W.alloc (.cells #[.int .i64 from_, .string s] 36)).alloc (.cells #[.slice a k cap, .slice (some ⟨W.heap.size, 0, none⟩) 1 1] 22)) := ((Below.refl _ _).alloc (Nat.le_refl _) _).alloc (by simp) _
  have hone := OwnRow.fresh W #[.int .i64 from_, .string s] 36
  have hkl : (l.take k).length = k := by simp; omega
  refine (concat_ch2 _ (.slice a k cap) (.slice (some ⟨W.heap.size, 0, none⟩) 1 1) (l.take k) [(from_, s)] _ (h0.cell (j := 0) rfl) (h0.cell (j := 1) rfl) ?_ ?_ (by omega) (by simp)).mono ?_
  · have h2 := hs.below hb1
    rw [hkl]
    have hc := h2.shape
    obtain ⟨a', c', hv, h3, h4⟩ := hc
    injection hv with _ _ e3
    subst e3
    rw [show chs l = chs (l.take k) ++ chs (l.drop k) by rw [← chs_append, List.take_append_drop]] at h2
    exact h2.cut hk (by omega) (Nat.le_refl _)
  · refine ⟨_, 1, rfl, Nat.le_refl _, by simp [maxLen], fun h => by simp at h, fun _ => ⟨W.heap.size, 0, rfl, fun j u hj => ?_⟩⟩
    rw [Nat.zero_add]
    exact cell_alloc (hone.cell (j := j) hj) _
  · rintro e w' ⟨v', rfl, ho, hb⟩
    exact ⟨v', rfl, ownsRow_base ho (by simp; omega), ext_trans hb1 hb⟩

theorem below_undrew {w W : World} (h : Below w.drew.heap.size w.drew W) : Below w.heap.size w W := ⟨h.os, h.tape, h.output, h.size, h.block⟩
theorem concat_put2 (W : World) (R : Nat) (a : Option Addr) (cap : Nat) (l : List Ch) (k : Nat) (from_ : Int) (s : ByteArray) (hs : SlR W (.slice a l.length cap) l.length (chs l)) (hk : k ≤ l.length) (hl : l.length ≤ 100000)
    (g0 : W.cell? ⟨R, 0, none⟩ = some (.int .i64 from_)) (g1 : W.cell? ⟨R, 1, none⟩ = some (.string s)) :
    Calls Tryz.prog 61 #[.slice (some ⟨W.heap.size, 0, none⟩) 2 2] (W.alloc (.cells #[.slice a k cap, .slice (some ⟨R, 0, none⟩) 1 1] 22))
      fun e w' => ∃ v', e = .returned v' ∧ w'.ownsRow W.heap.size 36 2 v' (l.take k ++ [(from_, s)]).length (chs (l.take k ++ [(from_, s)])) ∧ Below W.heap.size W w' := by
  have h0 := OwnRow.fresh W #[.slice a k cap, .slice (some ⟨R, 0, none⟩) 1 1] 22
  have hb1 : Below W.heap.size W (W.alloc (.cells #[.slice a k cap, .slice (some ⟨R, 0, none⟩) 1 1] 22)) := (Below.refl _ _).alloc (Nat.le_refl _) _
  have hkl : (l.take k).length = k := by simp; omega
  refine (concat_ch2 _ (.slice a k cap) (.slice (some ⟨R, 0, none⟩) 1 1) (l.take k) [(from_, s)] _ (h0.cell (j := 0) rfl) (h0.cell (j := 1) rfl) ?_ ?_ (by omega) (by simp)).mono ?_
  · have h2 := hs.below hb1
    rw [hkl]
    have hc := h2.shape
    obtain ⟨a', c', hv, h3, h4⟩ := hc
    injection hv with _ _ e3
    subst e3
    rw [show chs l = chs (l.take k) ++ chs (l.drop k) by rw [← chs_append, List.take_append_drop]] at h2
    exact h2.cut hk (by omega) (Nat.le_refl _)
  · refine ⟨_, 1, rfl, Nat.le_refl _, by simp [maxLen], fun h => by simp at h, fun _ => ⟨R, 0, rfl, fun j u hj => ?_⟩⟩
    rw [Nat.zero_add]
    have hj' : ([.int .i64 from_, .string s] : List Value)[j]? = some u := hj
    match j, hj' with
    | 0, hj' => obtain rfl := Option.some.inj hj'; exact cell_alloc g0 _
    | 1, hj' => obtain rfl := Option.some.inj hj'; exact cell_alloc g1 _
    | j + 2, hj' => simp at hj'
  · rintro e w' ⟨v', rfl, ho, hb⟩
    exact ⟨v', rfl, ownsRow_base ho (by simp), ext_trans hb1 hb⟩

theorem slr_join {w : World} {B : Nat} (a9 : Option Addr) (c9 : Nat) (r l : List Ch) (i : Nat) (h : w.ownsRow B 36 2 (.slice a9 (r.length + (l.length - i)) c9) (r.length + (l.length - i)) (chs r ++ chs (l.drop i))) :
    SlR w (.slice a9 (r.length + (l.length - i)) c9) (r ++ l.drop i).length (chs (r ++ l.drop i)) := by
  have := SlR.of_own h
  rw [List.length_append, List.length_drop, chs_append]
  exact this

theorem boxKeep {w W : World} {B b : Nat} {x y z : Value} (h : Below B w W) (hb : b < B) (p0 : w.cell? ⟨b, 0, none⟩ = some x) (p1 : w.cell? ⟨b, 1, none⟩ = some y) (p2 : w.cell? ⟨b, 2, none⟩ = some z)
    (q0 : w.frozen? ⟨b, 0, none⟩ = false) (q1 : w.frozen? ⟨b, 1, none⟩ = false) (q2 : w.frozen? ⟨b, 2, none⟩ = false) :
    W.cell? ⟨b, 0, none⟩ = some x ∧ W.cell? ⟨b, 1, none⟩ = some y ∧ W.cell? ⟨b, 2, none⟩ = some z ∧ W.frozen? ⟨b, 0, none⟩ = false ∧ W.frozen? ⟨b, 1, none⟩ = false ∧ W.frozen? ⟨b, 2, none⟩ = false :=
  ⟨(h.cell (p := ⟨b, 0, none⟩) hb).trans p0, (h.cell (p := ⟨b, 1, none⟩) hb).trans p1, (h.cell (p := ⟨b, 2, none⟩) hb).trans p2,
    (h.frozen (p := ⟨b, 0, none⟩) hb).trans q0, (h.frozen (p := ⟨b, 1, none⟩) hb).trans q1, (h.frozen (p := ⟨b, 2, none⟩) hb).trans q2⟩

set_option maxHeartbeats 1600000 in
set_option maxRecDepth 100000 in
theorem sig_Put (k n : Int) (v : Value) (l : List Ch) (from_ to_ : Int) (s : ByteArray) (w : World) (hg : Glob w) (hs : SlR w v l.length (chs l)) (hf : Fit l) (hss : s.size ≤ 1000000) :
    Calls Tryz.prog 31 #[.agg #[.int .i64 k, .int .i64 n, v], .int .i64 from_, .int .i64 to_, .string s] w (SigPost (putR k n l from_ to_ s) w) := by
  obtain ⟨a, cap, rfl, hc, hm⟩ := hs.shape
  have hbw : Below w.heap.size w ((w.alloc (.cells #[.int .i64 k, .int .i64 n, .slice a l.length cap] 24)).alloc (.cells #[.int .i64 0, .int .i64 0, .slice none 0 0] 24)) := ((Below.refl _ _).alloc (Nat.le_refl _) _).alloc (by simp) _
  have HV := Lib.hid (sig_Valid k n _ l _ (hg.below hbw) (hs.below hbw) hf)
  have HS := Lib.hid hs
  have HG := Lib.hid hg
  have hln := hf.1
  unfold maxLen at hm
  clear hg hs hf hbw
  go_enter Tryz.func31, Tryz.ntmps31
  go_wp2_with fail
  refine HV.out.mono ?_
  rintro e w1 ⟨rfl, hb⟩
  have hb0 : Below (w.alloc (.cells #[.int .i64 k, .int .i64 n, .slice a l.length cap] 24)).heap.size (w.alloc (.cells #[.int .i64 k, .int .i64 n, .slice a l.length cap] 24)) w1 := ext_alloc hb
  obtain ⟨c0, c1, c2⟩ := box3 hb0
  obtain ⟨⟨p0, p1, p2⟩, q0, q1, q2⟩ := box3r hb
  have HB := Lib.hid (ext_alloc hb0)
  have hsz : w.heap.size + 1 < w1.heap.size := by have := hb.size; simp at this; omega
  clear hb hb0
  cases hv : sv k n l
  · have HR := Lib.hid (show putR k n l from_ to_ s = ((0, 0, []), 1) by unfold putR; rw [if_pos hv])
    clear hv
    go_wp2_with fail
    refine bodyPost_ret (v := .tuple #[.agg #[.int .i64 0, .int .i64 0, .slice none 0 0], .int .i64 1]) (by simp [results, Tryz.results31, go_sem, p0, p1, p2]) rfl ?_
    rw [HR.out]
    exact SigPost.zero 1 (below_set3' HB.out (by omega) _ _ _)
  by_cases hk : k = 3
  · have HR := Lib.hid (show putR k n l from_ to_ s = ((0, 0, []), 7) by unfold putR; rw [if_neg (by rw [hv]; simp), if_pos hk])
    subst hk
    clear hv
    go_wp2_with fail
    refine bodyPost_ret (v := .tuple #[.agg #[.int .i64 0, .int .i64 0, .slice none 0 0], .int .i64 7]) (by simp [results, Tryz.results31, go_sem, p0, p1, p2]) rfl ?_
    rw [HR.out]
    exact SigPost.zero 7 (below_set3' HB.out (by omega) _ _ _)
  have hkb : (k == 3) = false := by rw [beq_eq_false_iff_ne]; exact hk
  by_cases hr : from_ < 0 ∨ to_ ≤ from_ ∨ 1099511627777 < to_
  · have HR := Lib.hid (show putR k n l from_ to_ s = ((0, 0, []), 2) by unfold putR; rw [if_neg (by rw [hv]; simp), if_neg hk, if_pos hr])
    clear hv hk
    rcases hr with hr | hr | hr
    all_goals
      go_wp2_with fail
    all_goals
      refine bodyPost_ret (v := .tuple #[.agg #[.int .i64 0, .int .i64 0, .slice none 0 0], .int .i64 2]) (by simp [results, Tryz.results31, go_sem, p0, p1, p2]) rfl ?_
      rw [HR.out]
      exact SigPost.zero 2 (below_set3' HB.out (by omega) _ _ _)
  have HR := Lib.hid (show putR k n l from_ to_ s = if vv k n s = false then ((0, 0, []), 1) else madeR k n (putL k n l from_ to_ s) by unfold putR; rw [if_neg (by rw [hv]; simp), if_neg hk, if_neg hr])
  obtain ⟨hr1, hr2, hr3⟩ : 0 ≤ from_ ∧ from_ < to_ ∧ to_ ≤ 1099511627777 := by omega
  obtain ⟨hst, hl4, -, -⟩ := sv_sorted hv
  have HST := Lib.hid hst
  clear hr hv hst hk
  go_wp2_with fail
  refine (val_Valid k n s _ (HG.out.below HB.out) (by unfold maxLen; omega)).mono ?_
  rintro e w2 ⟨rfl, hb2⟩
  have c0' := (hb2.cell (p := ⟨w.heap.size, 0, none⟩) (cell_lt c0)).trans c0
  have c1' := (hb2.cell (p := ⟨w.heap.size, 1, none⟩) (cell_lt c0)).trans c1
  have c2' := (hb2.cell (p := ⟨w.heap.size, 2, none⟩) (cell_lt c0)).trans c2
  have p0' := (hb2.cell (p := ⟨w.heap.size + 1, 0, none⟩) (cell_lt p0)).trans p0
  have p1' := (hb2.cell (p := ⟨w.heap.size + 1, 1, none⟩) (cell_lt p0)).trans p1
  have p2' := (hb2.cell (p := ⟨w.heap.size + 1, 2, none⟩) (cell_lt p0)).trans p2
  have q0' := (hb2.frozen (p := ⟨w.heap.size + 1, 0, none⟩) (cell_lt p0)).trans q0
  have q1' := (hb2.frozen (p := ⟨w.heap.size + 1, 1, none⟩) (cell_lt p0)).trans q1
  have q2' := (hb2.frozen (p := ⟨w.heap.size + 1, 2, none⟩) (cell_lt p0)).trans q2
  have HB2 := Lib.hid (ext_trans HB.out hb2)
  have hsz2 : w.heap.size + 1 < w2.heap.size := by have := hb2.size; omega
  clear c0 c1 c2 p0 p1 p2 q0 q1 q2 hb2 hsz
  cases hvv : vv k n s
  · have HR1 := Lib.hid (show putR k n l from_ to_ s = ((0, 0, []), 1) by rw [HR.out, if_pos hvv])
    clear hvv
    go_wp2_with fail
    refine bodyPost_ret (v := .tuple #[.agg #[.int .i64 0, .int .i64 0, .slice none 0 0], .int .i64 1]) (by simp [results, Tryz.results31, go_sem, p0', p1', p2']) rfl ?_
    rw [HR1.out]
    exact SigPost.zero 1 (below_set3' HB2.out (by omega) _ _ _)
  have HR1 := Lib.hid (show putR k n l from_ to_ s = madeR k n (putL k n l from_ to_ s) by rw [HR.out, if_neg (by rw [hvv]; simp)])
  clear hvv
  have HS2 := Lib.hid (HS.out.below HB2.out)
  have hlo1 := lo_le l from_
  have hq1 : (0 : Int) ≤ ((lo l from_ : Nat) : Int) := by omega
  have hq2 : ((lo l from_ : Nat) : Int) ≤ (cap : Int) := by omega
  obtain ⟨i0, hi, iz0, iz1, iz2⟩ := info_parts (P := Tryz.prog) change_info
  go_upto_region 9 with fail
  go_cut [10] (fun s10 wc => ∃ (a1 : Option Addr) (c1 : Nat), s10 = .slice a1 (l.take (lo l from_) ++ [(from_, s)]).length c1 ∧ wc.ownsRow w2.heap.size 36 2 s10 (l.take (lo l from_) ++ [(from_, s)]).length (chs (l.take (lo l from_) ++ [(from_, s)])) ∧ Below w2.heap.size w2 wc)
  case first =>
    go_region_held3 (fun w' => w'.cell? ⟨w.heap.size, 0, none⟩ = some (.int .i64 k) ∧ w'.cell? ⟨w.heap.size, 1, none⟩ = some (.int .i64 n) ∧ w'.cell? ⟨w.heap.size, 2, none⟩ = some (.slice a l.length cap)) (first | exact ⟨s0, s1, s2⟩ | go_keep)
      (first
        | (go_at_call 57; (with_reducible refine (sig_first k n _ l from_ w2.drew ?_ hln HST.out).mono ?_); (exact HS2.out); rintro e w3 ⟨rfl, hb3⟩; have HB3 := Lib.hid (below_undrew hb3); have s0 := (HB3.out.cell (p := ⟨w.heap.size, 0, none⟩) (cell_lt c0')).trans c0'; have s1 := (HB3.out.cell (p := ⟨w.heap.size, 1, none⟩) (cell_lt c0')).trans c1'; have s2 := (HB3.out.cell (p := ⟨w.heap.size, 2, none⟩) (cell_lt c0')).trans c2'; clear hb3)
        | (go_at_call 57; (with_reducible refine (sig_first k n _ l from_ (w2.alloc (Obj.cells #[Value.int IntKind.i64 from_, Value.string s] 36)).drew ?_ hln HST.out).mono ?_); (exact SlR.below (w := w2) HS2.out ((Below.refl _ _).alloc (Nat.le_refl _) _).drew); rintro e w3 ⟨rfl, hb3⟩; have g0 := (boxN (below_undrew hb3) 0).1; have g1 := (boxN (below_undrew hb3) 1).1; have HB3 := Lib.hid (ext_alloc (below_undrew hb3)); have s0 := (HB3.out.cell (p := ⟨w.heap.size, 0, none⟩) (cell_lt c0')).trans c0'; have s1 := (HB3.out.cell (p := ⟨w.heap.size, 1, none⟩) (cell_lt c0')).trans c1'; have s2 := (HB3.out.cell (p := ⟨w.heap.size, 2, none⟩) (cell_lt c0')).trans c2'; clear hb3)
        | (go_at_call 61; (with_reducible refine (concat_put _ a cap l (lo l from_) from_ s ?_ hlo1 (by omega)).mono ?_); (exact SlR.below (w := w2) HS2.out HB3.out); rintro e w4 ⟨v4, rfl, ho4, hb4⟩; have HO4 := Lib.hid (ownsRow_base ho4 HB3.out.size); have HB4 := Lib.hid (ext_trans HB3.out hb4); have s0 := (HB4.out.cell (p := ⟨w.heap.size, 0, none⟩) (cell_lt c0')).trans c0'; have s1 := (HB4.out.cell (p := ⟨w.heap.size, 1, none⟩) (cell_lt c0')).trans c1'; have s2 := (HB4.out.cell (p := ⟨w.heap.size, 2, none⟩) (cell_lt c0')).trans c2'; clear ho4 hb4)
        | (go_at_call 61; (with_reducible refine (concat_put2 _ _ a cap l (lo l from_) from_ s ?_ hlo1 (by omega) ?_ ?_).mono ?_); (exact SlR.below (w := w2) HS2.out HB3.out); (exact g0); (exact g1); rintro e w4 ⟨v4, rfl, ho4, hb4⟩; have HO4 := Lib.hid (ownsRow_base ho4 HB3.out.size); have HB4 := Lib.hid (ext_trans HB3.out hb4); have s0 := (HB4.out.cell (p := ⟨w.heap.size, 0, none⟩) (cell_lt c0')).trans c0'; have s1 := (HB4.out.cell (p := ⟨w.heap.size, 1, none⟩) (cell_lt c0')).trans c1'; have s2 := (HB4.out.cell (p := ⟨w.heap.size, 2, none⟩) (cell_lt c0')).trans c2'; clear ho4 hb4))
    all_goals
      obtain ⟨a1, c1, rfl, -, -⟩ := (SlR.of_own HO4.out).shape
      go_wp2_with fail
      go_meet
      case rel => exact ⟨a1, c1, rfl, HO4.out, HB4.out⟩
  case rest =>
    obtain ⟨a1, c1, rfl, ho5, hb5⟩ := hcut
    have k0 := (hb5.cell (p := ⟨w.heap.size, 0, none⟩) (cell_lt c0')).trans c0'
    have k1 := (hb5.cell (p := ⟨w.heap.size, 1, none⟩) (cell_lt c0')).trans c1'
    have k2 := (hb5.cell (p := ⟨w.heap.size, 2, none⟩) (cell_lt c0')).trans c2'
    have HR5 : Hid (∃ r5, l.take (lo l from_) ++ [(from_, s)] = r5) := Lib.hid ⟨_, rfl⟩
    obtain ⟨r5, hr5⟩ := HR5.out
    have hl5 : r5.length ≤ 100000 := by rw [← hr5]; simp; omega
    rw [hr5] at ho5 ⊢
    have HE5 := Lib.hid hr5
    have HO5 := Lib.hid ho5
    have HB5 := Lib.hid hb5
    have HS5 := Lib.hid (HS2.out.below hb5)
    clear ho5 hb5 hr5 HR5
    go_upto_if 56 with fail
    go_cut [10] (fun s10 wc => ∃ (a1 : Option Addr) (c1 : Nat) (r : List Ch), r = r5 ++ (if to_ ≤ 1099511627776 then [(to_, valAt k n l to_)] else []) ∧ s10 = .slice a1 r.length c1 ∧ wc.ownsRow w2.heap.size 36 2 s10 r.length (chs r) ∧ Below w2.heap.size w2 wc)
    case first =>
      by_cases hto : to_ ≤ 1099511627776
      · have HT := Lib.hid hto
        go_wp2_with fail
        refine (sig_at k n _ l to_ _ HS5.out hln HST.out (by omega) (by omega)).mono ?_
        rintro e w6 ⟨rfl, hb6⟩
        have ho6 := (HO5.out).kept (row := none) (w' := w6) ⟨hb6.os, hb6.tape, hb6.output, hb6.size, fun i hi _ => hb6.block i hi⟩ (by cases a1 with | none => exact .inl rfl | some ad => exact .inr (by simp [Value.ownBlock]))
        have HO6 := Lib.hid ho6
        have HB6 := Lib.hid (HB5.out.trans (hb6.mono HB5.out.size))
        clear ho6 hb6
        go_wp2_with (at_builtin; refine wpList_append_own _ rfl _ _ 22 rfl w2.heap.size 36 i0 (.agg #[.int .i64 0, .string ⟨#[]⟩]) 2 24 Tryz.underlying22 hi iz0 iz1 iz2 rfl (by decide) _ _ _ rfl (HO6.out.alloc _) ⟨w6.heap.size, 0, none⟩ 1 1 [.int .i64 to_, .string (valAt k n l to_)] rfl rfl (World.news_of_block (cs := #[.int .i64 to_, .string (valAt k n l to_)]) (t := 36) (fr := (0, 0)) (heap_alloc_new w6 _)) (by simp [Value.oneCell']) (by unfold maxLen; omega) (by omega) (by have := HB6.out.size; simp; omega) ?_)
        intro v7 w7 ho7 hg7 _
        obtain ⟨a7, c7, rfl, -, -⟩ := (SlR.of_own ho7).shape
        have hb7 : Below w2.heap.size w2 w7 := (HB6.out.alloc HB6.out.size _).grown hg7 (by have := HB6.out.size; simp; omega) (fun q hq => (HO6.out.lt q hq).1)
        have HO7 := Lib.hid ho7
        have HB7 := Lib.hid hb7
        clear ho7 hg7 hb7
        go_wp2_with fail
        go_meet
        case rel => exact ⟨a7, c7, r5 ++ [(to_, valAt k n l to_)], by rw [if_pos HT.out], by simp, by have := HO7.out; rw [chs_append]; simpa [chs, encC] using this, HB7.out⟩
      · have HT := Lib.hid hto
        go_wp2_with fail
        go_meet
        case rel => exact ⟨a1, c1, r5, by rw [if_neg (by have := HT.out; omega)]; simp, rfl, HO5.out, HB5.out⟩
    case rest =>
      obtain ⟨a6, c6, r, hr, rfl, ho7, hb7⟩ := hcut
      have hl7 : r.length ≤ 200000 := by rw [hr]; split <;> simp <;> omega
      have HR7 := Lib.hid (show r ++ l.drop (lo l (to_ + 1)) = putL k n l from_ to_ s by rw [hr, ← HE5.out]; unfold putL; simp [List.append_assoc])
      have t0 := (hb7.cell (p := ⟨w.heap.size, 0, none⟩) (cell_lt c0')).trans c0'
      have t1 := (hb7.cell (p := ⟨w.heap.size, 1, none⟩) (cell_lt c0')).trans c1'
      have t2 := (hb7.cell (p := ⟨w.heap.size, 2, none⟩) (cell_lt c0')).trans c2'
      have d0 := (hb7.cell (p := ⟨w.heap.size + 1, 0, none⟩) (cell_lt p0')).trans p0'
      have d1 := (hb7.cell (p := ⟨w.heap.size + 1, 1, none⟩) (cell_lt p0')).trans p1'
      have d2 := (hb7.cell (p := ⟨w.heap.size + 1, 2, none⟩) (cell_lt p0')).trans p2'
      have z0 := (hb7.frozen (p := ⟨w.heap.size + 1, 0, none⟩) (cell_lt p0')).trans q0'
      have z1 := (hb7.frozen (p := ⟨w.heap.size + 1, 1, none⟩) (cell_lt p0')).trans q1'
      have z2 := (hb7.frozen (p := ⟨w.heap.size + 1, 2, none⟩) (cell_lt p0')).trans q2'
      have HO7 := Lib.hid ho7
      have HB7 := Lib.hid hb7
      have HS7 := Lib.hid (HS2.out.below hb7)
      have hlo2 := lo_le l (to_ + 1)
      have hwrap : IntKind.i64.wrap (to_ + 1) = to_ + 1 := IntWalk.i64_in _ (by omega)
      clear hr ho7 hb7 k0 k1 k2 HE5 HO5 HB5 HS5 hq1 hq2 hlo1
      have hlz : (0 : Int) ≤ ((lo l (to_ + 1) : Nat) : Int) := by omega
      have hlz2 : ((lo l (to_ + 1) : Nat) : Int) ≤ (l.length : Int) := by omega
      have c0'' := c0'
      have c1'' := c1'
      have c2'' := c2'
      have p0'' := p0'
      have p1'' := p1'
      have p2'' := p2'
      have q0'' := q0'
      have q1'' := q1'
      have q2'' := q2'
      have hdl : (l.drop (lo l (to_ + 1))).length ≤ 4096 := by simp; omega
      go_upto_region 12 with fail
      go_region_held3 (fun w' => w'.cell? ⟨w.heap.size, 0, none⟩ = some (.int .i64 k) ∧ w'.cell? ⟨w.heap.size, 1, none⟩ = some (.int .i64 n) ∧ w'.cell? ⟨w.heap.size, 2, none⟩ = some (.slice a l.length cap)) (first | exact ⟨v0, v1, v2⟩ | exact ⟨r0, r1, r2⟩ | exact ⟨s0, s1, s2⟩ | go_keep)
        (first
          | (go_at_call 57; (with_reducible refine (sig_first k n _ l (to_ + 1) wc.drew ?_ hln HST.out).mono ?_); (exact HS7.out); rintro e w8 ⟨rfl, hb8⟩; have HB8 := Lib.hid (HB7.out.drew.trans (hb8.mono HB7.out.size)); have HO8 := Lib.hid ((HO7.out.drew).kept (row := none) (w' := w8) ⟨hb8.os, hb8.tape, hb8.output, hb8.size, fun i hi _ => hb8.block i hi⟩ (by cases a6 with | none => exact .inl rfl | some ad => exact .inr (by simp [Value.ownBlock]))); have s0 := (hb8.cell (p := ⟨w.heap.size, 0, none⟩) (cell_lt t0)).trans t0; have s1 := (hb8.cell (p := ⟨w.heap.size, 1, none⟩) (cell_lt t0)).trans t1; have s2 := (hb8.cell (p := ⟨w.heap.size, 2, none⟩) (cell_lt t0)).trans t2; clear hb8)
          | ((refine step_append_sl _ (by rfl) _ _ _ (by rfl) w2.heap.size 36 i0 (.agg #[.int .i64 0, .string ⟨#[]⟩]) 2 24 Tryz.underlying22 hi iz0 iz1 iz2 rfl (by decide) (.slice a6 r.length c6) r.length (chs r) (by rfl) (by exact HO8.out)
                _ (l.length - lo l (to_ + 1)) _ (chs (l.drop (lo l (to_ + 1)))) (by rfl) ((SlR.below (w := w2) HS2.out HB8.out).rest _ hlo2) (by rw [chs_len, List.length_drop, Nat.mul_comm]) (chs_one _) (by unfold maxLen; omega) (by omega) (by exact HB8.out.size) ?_); intro a9 c9 w9 ho9 hg9; have HB9 := Lib.hid (HB8.out.grown hg9 HB8.out.size (fun q hq => (HO8.out.lt q hq).1)); have HS9 := Lib.hid (slr_join a9 c9 r l (lo l (to_ + 1)) ho9); clear ho9 hg9; generalize (if cap = lo l (to_ + 1) then a else Option.map (fun x => x.add (lo l (to_ + 1) * 2)) a) = az; have r0 := (HB9.out.cell (p := ⟨w.heap.size, 0, none⟩) (cell_lt c0'')).trans c0''; have r1 := (HB9.out.cell (p := ⟨w.heap.size, 1, none⟩) (cell_lt c1'')).trans c1''; have r2 := (HB9.out.cell (p := ⟨w.heap.size, 2, none⟩) (cell_lt c2'')).trans c2'')
          | (go_at_call 47; (with_reducible refine (sig_made k n _ (r ++ l.drop (lo l (to_ + 1))) _ ?_ ?_).mono ?_); (exact HS9.out); (rw [List.length_append]; omega); rintro e w10 ⟨v10, rfl, ho10, hb10⟩; obtain ⟨a10, c10, rfl, -, -⟩ := (SlR.of_own ho10).shape; have HO10 := Lib.hid ho10; have HB10 := Lib.hid (HB9.out.trans (hb10.mono HB9.out.size)); clear ho10 hb10; obtain ⟨x0, x1, x2, y0, y1, y2⟩ := boxKeep HB10.out (cell_lt p0'') p0'' p1'' p2'' q0'' q1'' q2''; have v0 := (HB10.out.cell (p := ⟨w.heap.size, 0, none⟩) (cell_lt c0'')).trans c0''; have v1 := (HB10.out.cell (p := ⟨w.heap.size, 1, none⟩) (cell_lt c0'')).trans c1''; have v2 := (HB10.out.cell (p := ⟨w.heap.size, 2, none⟩) (cell_lt c0'')).trans c2''))
      all_goals go_wp2_with fail
      all_goals try (simp only [Exit.then]; apply_assumption; go_wp2_with fail)
      all_goals
        obtain ⟨g0, g1, g2⟩ := set3 x0 x1 x2 (.int .i64 (madeR k n (r ++ l.drop (lo l (to_ + 1)))).1.1) (.int .i64 (madeR k n (r ++ l.drop (lo l (to_ + 1)))).1.2.1) (.slice a10 (madeR k n (r ++ l.drop (lo l (to_ + 1)))).1.2.2.length c10)
        refine bodyPost_ret (v := .tuple #[.agg #[.int .i64 (madeR k n (r ++ l.drop (lo l (to_ + 1)))).1.1, .int .i64 (madeR k n (r ++ l.drop (lo l (to_ + 1)))).1.2.1, .slice a10 (madeR k n (r ++ l.drop (lo l (to_ + 1)))).1.2.2.length c10], .int .i64 (madeR k n (r ++ l.drop (lo l (to_ + 1)))).2]) (by simp [results, Tryz.results31, go_sem, g0, g1, g2]) rfl ?_
        rw [HR1.out, ← HR7.out]
        exact ⟨_, rfl, ownsRow_base (ownsRow_set3 HO10.out (by have := HB9.out.size; omega) _ _ _) (by have := HB9.out.size; omega), below_set3' (HB2.out.trans (HB10.out.mono HB2.out.size)) (by omega) _ _ _⟩
end Go.Proofs.YtlbcfmhpkcpmaaaGreatDoor
