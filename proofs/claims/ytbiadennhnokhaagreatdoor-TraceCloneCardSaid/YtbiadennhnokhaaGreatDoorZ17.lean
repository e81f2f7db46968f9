import Derived.Test.YtbiadennhnokhaaGreatDoorZ14
import Derived.Test.YtbiadennhnokhaaGreatDoorZ16
import Derived.Test.YtbiadennhnokhaaGreatDoorZ13
import Derived.Lib.SplitLaws
import Derived.Lib.IndexBytes
import Derived.Lib.Join
import Derived.Test.YtbiadennhnokhaaGreatDoorZ15
import Derived.Test.YtbiadennhnokhaaGreatDoorShelf
import Derived.Lib.IndexAny
/- trace.Clone. -/
namespace Go.Proofs.YtbiadennhnokhaaGreatDoor
open Go.RowKit
set_option linter.unusedSimpArgs false

section
variable {P : Program} {ops : Array Oper} {Q : Exit → Act → World → Prop} {md : Region.Mode} {S : World → Prop} {X : Nat → Bool}
/-- a late operation that yields the same in every world -/
theorem wpAnyX_firstT {i : Nat} {oi : Oper} {v : Value} (hi : ops[i]? = some oi) (hsel : ∀ (j : Nat) (o : Oper) cs b, ops[j]? = some o → o.op ≠ .select cs b)
    (hQ : ∀ c a w, Q (.panic c) (a.put oi.dst v) w → Q (.panic c) a w) (hX : X i = true) :
    ∀ (fuel : Nat) (listed : Array Bool) (a : Act) (w : World),
      (∀ j oj, ops[j]? = some oj → j ≠ i → listed.getD j true = false → (∀ e ∈ oj.after, Region.binds md e = true → e.on ≠ i) → oi.apart ops oj = true) →
      i ∈ Region.ready md ops listed → YieldsIf P ops (fun _ => True) oi v a →
      wpAnyX P md ops Q S X fuel (listed.setIfInBounds i true) (a.put oi.dst v) w → wpAnyX P md ops Q S X (fuel + 1) listed a w := by
  intro fuel
  induction fuel with
  | zero =>
    intro listed a w _ hr hy H
    refine ⟨fun h => (by rw [h] at hr; cases hr), fun j hj => ?_⟩
    by_cases hji : j = i
    · subst hji; exact hy.wpOp hi trivial ⟨fun h => (by rw [hX] at h; cases h), H⟩
    · have := ready_mono hj hji
      rw [H.1] at this
      cases this
  | succ fuel ih =>
    intro listed a w hfree hr hy H
    refine ⟨fun h => (by rw [h] at hr; cases hr), fun j hj => ?_⟩
    by_cases hji : j = i
    · subst hji; exact hy.wpOp hi trivial ⟨fun h => (by rw [hX] at h; cases h), H⟩
    · have h1 := H.2 j (ready_mono hj hji)
      obtain ⟨hjun, oj, hoj, hall⟩ := mem_ready.1 hj
      have hnot : ∀ e ∈ oj.after, Region.binds md e = true → e.on ≠ i := fun e he hb heq => by
        have h1 := hall e he hb
        have h0 := (mem_ready.1 hr).1
        rw [heq] at h1
        rcases Nat.lt_or_ge i listed.size with h' | h'
        · simp [h'] at h0 h1; rw [h0] at h1; cases h1
        · simp [Array.getElem?_eq_none h'] at h1
      have h2 := wpOp_putIf hoj (hfree j oj hoj hji hjun hnot) (fun cs b => hsel i oi cs b hi) (fun cs b => hsel j oj cs b hoj) hQ hy h1
      have hfree' : ∀ k ok, ops[k]? = some ok → k ≠ i → (listed.setIfInBounds j true).getD k true = false →
          (∀ e ∈ ok.after, Region.binds md e = true → e.on ≠ i) → oi.apart ops ok = true := fun k ok hk hki hun hno => by
        refine hfree k ok hk hki ?_ hno
        by_cases hjk : j = k
        · subst hjk; exact hjun
        · rw [getD_set_ne true hjk] at hun; exact hun
      refine wpOp_mono (fun a' w' h3 => ⟨h3.2.1, ih (listed.setIfInBounds j true) a' w' hfree' (ready_mono hr (Ne.symm hji)) h3.1 ?_⟩) h2
      rw [Array.setIfInBounds_comm _ _ hji]
      exact h3.2.2
theorem wpAnyX_late {i : Nat} {oi : Oper} {v : Value} {fuel : Nat} {listed : Array Bool} {a : Act} {w : World} (hi : ops[i]? = some oi)
    (hs : Region.noSelect ops = true) (hf : Region.free md ops listed i = true) (hr : (Region.ready md ops listed).contains i = true) (hX : X i = true)
    (hQ : ∀ c a w, Q (.panic c) (a.put oi.dst v) w → Q (.panic c) a w) (hy : YieldsIf P ops (fun _ => True) oi v a)
    (h : wpAnyX P md ops Q S X fuel (listed.setIfInBounds i true) (a.put oi.dst v) w) : wpAnyX P md ops Q S X (fuel + 1) listed a w :=
  wpAnyX_firstT hi (Region.noSelect_spec hs) hQ hX fuel listed a w (Region.free_spec hi hf) (by simpa using hr) hy h
end
theorem below_own {w w' : World} {B e size n : Nat} {v : Value} {xs : List Value} (h : w.ownsRow B e size v n xs) (hb : Below w.heap.size w w') : w'.ownsRow B e size v n xs := own_same0 h (Same0.of_below hb)
theorem OwnRow.other {w : World} {b : Nat} {xs : List Value} (h : OwnRow w b xs) {a : Addr} (hne : a.block ≠ b) (u : Value) : OwnRow (w.setCell a u) b xs := by
  intro i v hi
  refine ⟨?_, by rw [World.frozen?_setCell]; exact (h i v hi).2⟩
  rw [World.cell?_setCell_other (h := by rintro rfl; exact hne rfl)]
  exact (h i v hi).1
theorem own_lo {w : World} {B e size n : Nat} {v : Value} {xs : List Value} (h : w.ownsRow B e size v n xs) {g : Nat} (hg : v.ownBlock = some g) : B ≤ g ∧ g < w.heap.size := by
  rcases h.2 with ⟨rfl, -⟩ | ⟨g', cap, cur, rfl, hb, hh, -⟩
  · cases hg
  · obtain rfl : g' = g := by simpa [Value.ownBlock] using hg
    exact ⟨hb, (Array.getElem?_eq_some_iff.1 hh).1⟩
theorem own_ne {w : World} {B B' e e' size size' n n' g : Nat} {v v' : Value} {xs xs' : List Value} (h : w.ownsRow B e size v n xs) (h' : w.ownsRow B' e' size' v' n' xs') (hne : e ≠ e') (hg : v'.ownBlock = some g) : v.ownBlock ≠ some g := by
  intro h0
  rcases own_apart h h' hne with h1 | h1
  · rw [h1] at h0; cases h0
  · exact h1 (h0.trans hg.symm)
theorem sgs_set (A D : List (Sg × Value)) (x : Sg) (v u : Value) : (sgs (A ++ (x, v) :: D)).set (A.length * 3 + 2) u = sgs (A ++ (x, u) :: D) := by
  rw [sgs_app, sgs_app, sgs_cons, sgs_cons, List.set_append, if_neg (by rw [sgs_len]; omega), sgs_len, show A.length * 3 + 2 - 3 * A.length = 2 by omega]
  rfl
/-- a trace whose parts are the call's own -/
structure TrO (B : Nat) (w : World) (t : Tr) (p : TP) : Prop where
  s : w.ownsRow B 55 3 p.vs t.S.length (scs t.S)
  v : w.ownsRow B 42 7 p.vv t.V.length (vrs t.V)
  g : w.ownsRow B 45 3 p.vg p.M.length (sgs p.M)
  c : ∀ x ∈ p.M, w.ownsRow B 53 2 x.2 x.1.2.2.length (chs x.1.2.2)
  q : w.ownsRow B 57 2 p.vp t.P.length (gps t.P)
  m : p.M.map Prod.fst = t.G
theorem TrO.m0 {B : Nat} {w : World} {t : Tr} {p : TP} (h : TrO B w t p) : TrM w t p := ⟨SlR.of_own h.s, SlR.of_own h.v, ⟨SlR.of_own h.g, fun x hx => SlR.of_own (h.c x hx)⟩, SlR.of_own h.q, h.m⟩
def FitT (t : Tr) : Prop := t.S.length ≤ 1000 ∧ t.V.length ≤ 1000 ∧ t.G.length ≤ 1000 ∧ t.P.length ≤ 1000 ∧ ∀ s ∈ t.G, s.2.2.length ≤ 100000
/-- a box is written whole -/
def set9 (W : World) (b : Nat) (u0 u1 u2 u3 u4 u5 u6 u7 u8 : Value) : World := ((((((((W.setCell ⟨b, 0, none⟩ u0).setCell ⟨b, 1, none⟩ u1).setCell ⟨b, 2, none⟩ u2).setCell ⟨b, 3, none⟩ u3).setCell ⟨b, 4, none⟩ u4).setCell ⟨b, 5, none⟩ u5).setCell ⟨b, 6, none⟩ u6).setCell ⟨b, 7, none⟩ u7).setCell ⟨b, 8, none⟩ u8
theorem set9_row {W : World} {b : Nat} {z0 z1 z2 z3 z4 z5 z6 z7 z8 : Value} (h : OwnRow W b [z0, z1, z2, z3, z4, z5, z6, z7, z8]) (u0 u1 u2 u3 u4 u5 u6 u7 u8 : Value) : OwnRow (set9 W b u0 u1 u2 u3 u4 u5 u6 u7 u8) b [u0, u1, u2, u3, u4, u5, u6, u7, u8] :=
  ((((((((h.set (j := 0) (by simp) u0).set (j := 1) (by simp) u1).set (j := 2) (by simp) u2).set (j := 3) (by simp) u3).set (j := 4) (by simp) u4).set (j := 5) (by simp) u5).set (j := 6) (by simp) u6).set (j := 7) (by simp) u7).set (j := 8) (by simp) u8
theorem set9_own {W : World} {b B e size n : Nat} {v : Value} {xs : List Value} (h : W.ownsRow B e size v n xs) (hb : b < B) (u0 u1 u2 u3 u4 u5 u6 u7 u8 : Value) : (set9 W b u0 u1 u2 u3 u4 u5 u6 u7 u8).ownsRow B e size v n xs :=
  ownsRow_setCell_below (ownsRow_setCell_below (ownsRow_setCell_below (ownsRow_setCell_below (ownsRow_setCell_below (ownsRow_setCell_below (ownsRow_setCell_below (ownsRow_setCell_below (ownsRow_setCell_below h hb u0) hb u1) hb u2) hb u3) hb u4) hb u5) hb u6) hb u7) hb u8
theorem set9_other {W : World} {b c : Nat} {xs : List Value} (h : OwnRow W c xs) (hb : b ≠ c) (u0 u1 u2 u3 u4 u5 u6 u7 u8 : Value) : OwnRow (set9 W b u0 u1 u2 u3 u4 u5 u6 u7 u8) c xs :=
  ((((((((h.other hb u0).other hb u1).other hb u2).other hb u3).other hb u4).other hb u5).other hb u6).other hb u7).other hb u8
theorem set9_below {B : Nat} {w W : World} {b : Nat} (h : Below B w W) (hb : B ≤ b) (u0 u1 u2 u3 u4 u5 u6 u7 u8 : Value) : Below B w (set9 W b u0 u1 u2 u3 u4 u5 u6 u7 u8) :=
  ((((((((h.setCell hb u0).setCell hb u1).setCell hb u2).setCell hb u3).setCell hb u4).setCell hb u5).setCell hb u6).setCell hb u7).setCell hb u8
/-- what lies in memory while the changes are cloned -/
structure ClI (w : World) (B : Nat) (t : Tr) (v1 v2 v3 v4 : Value) (M : List (Sg × Value)) (k : Nat) (W : World) : Prop where
  x : OwnRow W w.heap.size [.int .i64 t.sc, .string (bsB t.dt), .string (bsB t.vn), .string (bsB t.cm), v1, v2, v3, v4, .int .i64 t.en]
  y : OwnRow W (w.heap.size + 1) [.int .i64 0, .string ⟨#[]⟩, .string ⟨#[]⟩, .string ⟨#[]⟩, .slice none 0 0, .slice none 0 0, .slice none 0 0, .slice none 0 0, .int .i64 0]
  s : W.ownsRow B 55 3 v1 t.S.length (scs t.S)
  v : W.ownsRow B 42 7 v2 t.V.length (vrs t.V)
  q : W.ownsRow B 57 2 v4 t.P.length (gps t.P)
  g : ∃ A : List (Sg × Value), A.length = k ∧ (A ++ M.drop k).map Prod.fst = t.G ∧ W.ownsRow B 45 3 v3 M.length (sgs (A ++ M.drop k)) ∧ ∀ x ∈ A, W.ownsRow B 53 2 x.2 x.1.2.2.length (chs x.1.2.2)
  b : Below w.heap.size w W
set_option maxHeartbeats 3200000 in
set_option maxRecDepth 100000 in
theorem tr_Clone (t : Tr) (p : TP) (w : World) (ht : TrM w t p) (hf : FitT t) : Calls Tryz.prog 30 #[p.v t] w fun e w' => ∃ p', e = .returned (p'.v t) ∧ TrO w.heap.size w' t p' ∧ Below w.heap.size w w' := by
  obtain ⟨hs, hv, hg, hq, hm⟩ := ht
  obtain ⟨f1, f2, f3, f4, f5⟩ := hf
  obtain ⟨sc, dt, vn, cm, S, V, G, P, en⟩ := t
  obtain ⟨ps, pv, pg, pp, M⟩ := p
  unfold TP.v
  dsimp only at *
  obtain ⟨a1, c1, rfl, -, -⟩ := hs.shape
  obtain ⟨a2, c2, rfl, -, -⟩ := hv.shape
  obtain ⟨a3, c3, rfl, -, -⟩ := hg.s.shape
  obtain ⟨a4, c4, rfl, -, -⟩ := hq.shape
  have HML := Lib.hid (show M.length = G.length by rw [← hm, List.length_map])
  have HM := Lib.hid hm
  have hML : M.length ≤ 1000 := by rw [HML.out]; exact f3
  clear hm
  have hal : Below w.heap.size w ((w.alloc (.cells #[.int .i64 sc, .string (bsB dt), .string (bsB vn), .string (bsB cm), .slice a1 S.length c1, .slice a2 V.length c2, .slice a3 M.length c3, .slice a4 P.length c4, .int .i64 en] 27)).alloc (.cells #[.int .i64 0, .string ⟨#[]⟩, .string ⟨#[]⟩, .string ⟨#[]⟩, .slice none 0 0, .slice none 0 0, .slice none 0 0, .slice none 0 0, .int .i64 0] 27)) := ((Below.refl _ _).alloc (Nat.le_refl _) _).alloc (by simp) _
  have X1 := Lib.hid ((OwnRow.fresh w #[.int .i64 sc, .string (bsB dt), .string (bsB vn), .string (bsB cm), .slice a1 S.length c1, .slice a2 V.length c2, .slice a3 M.length c3, .slice a4 P.length c4, .int .i64 en] 27).below ((Below.refl _ _).alloc (Nat.le_refl _) (.cells #[.int .i64 0, .string ⟨#[]⟩, .string ⟨#[]⟩, .string ⟨#[]⟩, .slice none 0 0, .slice none 0 0, .slice none 0 0, .slice none 0 0, .int .i64 0] 27)) (by simp))
  have Y1 := OwnRow.fresh (w.alloc (.cells #[.int .i64 sc, .string (bsB dt), .string (bsB vn), .string (bsB cm), .slice a1 S.length c1, .slice a2 V.length c2, .slice a3 M.length c3, .slice a4 P.length c4, .int .i64 en] 27)) #[.int .i64 0, .string ⟨#[]⟩, .string ⟨#[]⟩, .string ⟨#[]⟩, .slice none 0 0, .slice none 0 0, .slice none 0 0, .slice none 0 0, .int .i64 0] 27
  rw [World.size_alloc] at Y1
  have Y1 := Lib.hid Y1
  go_enter Tryz.func30, Tryz.ntmps30
  go_wp2_with fail
  have hzb : w.heap.size + 1 < ((w.alloc (.cells #[.int .i64 sc, .string (bsB dt), .string (bsB vn), .string (bsB cm), .slice a1 S.length c1, .slice a2 V.length c2, .slice a3 M.length c3, .slice a4 P.length c4, .int .i64 en] 27)).alloc (.cells #[.int .i64 0, .string ⟨#[]⟩, .string ⟨#[]⟩, .string ⟨#[]⟩, .slice none 0 0, .slice none 0 0, .slice none 0 0, .slice none 0 0, .int .i64 0] 27)).heap.size := by simp
  generalize (w.alloc (.cells #[.int .i64 sc, .string (bsB dt), .string (bsB vn), .string (bsB cm), .slice a1 S.length c1, .slice a2 V.length c2, .slice a3 M.length c3, .slice a4 P.length c4, .int .i64 en] 27)).alloc (.cells #[.int .i64 0, .string ⟨#[]⟩, .string ⟨#[]⟩, .string ⟨#[]⟩, .slice none 0 0, .slice none 0 0, .slice none 0 0, .slice none 0 0, .int .i64 0] 27) = Wb at *
  have d4 := X1.out.cell (j := 4) rfl
  have d5 := X1.out.cell (j := 5) rfl
  have d6 := X1.out.cell (j := 6) rfl
  have d7 := X1.out.cell (j := 7) rfl
  refine wp_region_late (S := fun w' => w'.cell? ⟨w.heap.size, 4, none⟩ = some (.slice a1 S.length c1) ∧ w'.cell? ⟨w.heap.size, 5, none⟩ = some (.slice a2 V.length c2) ∧ w'.cell? ⟨w.heap.size, 6, none⟩ = some (.slice a3 M.length c3) ∧ w'.cell? ⟨w.heap.size, 7, none⟩ = some (.slice a4 P.length c4)) (X := fun j => decide (12 ≤ j)) (by kernel_rfl) ?_
  have HS := Lib.hid (show Wb.drew.cell? ⟨w.heap.size, 4, none⟩ = some (.slice a1 S.length c1) ∧ Wb.drew.cell? ⟨w.heap.size, 5, none⟩ = some (.slice a2 V.length c2) ∧ Wb.drew.cell? ⟨w.heap.size, 6, none⟩ = some (.slice a3 M.length c3) ∧ Wb.drew.cell? ⟨w.heap.size, 7, none⟩ = some (.slice a4 P.length c4) from ⟨d4, d5, d6, d7⟩)
  refine wpAnyX_take (i := 0) (v := ?_) rfl (by kernel_rfl) (by kernel_rfl) (by kernel_rfl) (by kernel_rfl) (fun _ _ _ h => h) (Or.inl ⟨by rfl, ?_⟩) HS.out ?_
  rotate_left
  · intro w hSw
    (try dsimp only at hSw)
    go_simp
    all_goals with_reducible rfl
  simp only [Act.put, List.getElem_toArray, List.getElem_cons_succ, List.getElem_cons_zero, List.setIfInBounds_toArray, List.set_cons_zero, List.set_cons_succ]
  refine wpAnyX_take (i := 1) (v := ?_) rfl (by kernel_rfl) (by kernel_rfl) (by kernel_rfl) (by kernel_rfl) (fun _ _ _ h => h) (Or.inl ⟨by rfl, ?_⟩) HS.out ?_
  rotate_left
  · intro w hSw
    (try dsimp only at hSw)
    go_simp
    all_goals with_reducible rfl
  simp only [Act.put, List.getElem_toArray, List.getElem_cons_succ, List.getElem_cons_zero, List.setIfInBounds_toArray, List.set_cons_zero, List.set_cons_succ]
  refine wpAnyX_take (i := 3) (v := ?_) rfl (by kernel_rfl) (by kernel_rfl) (by kernel_rfl) (by kernel_rfl) (fun _ _ _ h => h) (Or.inl ⟨by rfl, ?_⟩) HS.out ?_
  rotate_left
  · intro w hSw
    (try dsimp only at hSw)
    go_simp
    all_goals with_reducible rfl
  simp only [Act.put, List.getElem_toArray, List.getElem_cons_succ, List.getElem_cons_zero, List.setIfInBounds_toArray, List.set_cons_zero, List.set_cons_succ]
  refine wpAnyX_take (i := 4) (v := ?_) rfl (by kernel_rfl) (by kernel_rfl) (by kernel_rfl) (by kernel_rfl) (fun _ _ _ h => h) (Or.inl ⟨by rfl, ?_⟩) HS.out ?_
  rotate_left
  · intro w hSw
    (try dsimp only at hSw)
    go_simp
    all_goals with_reducible rfl
  simp only [Act.put, List.getElem_toArray, List.getElem_cons_succ, List.getElem_cons_zero, List.setIfInBounds_toArray, List.set_cons_zero, List.set_cons_succ]
  refine wpAnyX_take (i := 6) (v := ?_) rfl (by kernel_rfl) (by kernel_rfl) (by kernel_rfl) (by kernel_rfl) (fun _ _ _ h => h) (Or.inl ⟨by rfl, ?_⟩) HS.out ?_
  rotate_left
  · intro w hSw
    (try dsimp only at hSw)
    go_simp
    all_goals with_reducible rfl
  simp only [Act.put, List.getElem_toArray, List.getElem_cons_succ, List.getElem_cons_zero, List.setIfInBounds_toArray, List.set_cons_zero, List.set_cons_succ]
  refine wpAnyX_take (i := 7) (v := ?_) rfl (by kernel_rfl) (by kernel_rfl) (by kernel_rfl) (by kernel_rfl) (fun _ _ _ h => h) (Or.inl ⟨by rfl, ?_⟩) HS.out ?_
  rotate_left
  · intro w hSw
    (try dsimp only at hSw)
    go_simp
    all_goals with_reducible rfl
  simp only [Act.put, List.getElem_toArray, List.getElem_cons_succ, List.getElem_cons_zero, List.setIfInBounds_toArray, List.set_cons_zero, List.set_cons_succ]
  refine wpAnyX_take (i := 9) (v := ?_) rfl (by kernel_rfl) (by kernel_rfl) (by kernel_rfl) (by kernel_rfl) (fun _ _ _ h => h) (Or.inl ⟨by rfl, ?_⟩) HS.out ?_
  rotate_left
  · intro w hSw
    (try dsimp only at hSw)
    go_simp
    all_goals with_reducible rfl
  simp only [Act.put, List.getElem_toArray, List.getElem_cons_succ, List.getElem_cons_zero, List.setIfInBounds_toArray, List.set_cons_zero, List.set_cons_succ]
  refine wpAnyX_take (i := 10) (v := ?_) rfl (by kernel_rfl) (by kernel_rfl) (by kernel_rfl) (by kernel_rfl) (fun _ _ _ h => h) (Or.inl ⟨by rfl, ?_⟩) HS.out ?_
  rotate_left
  · intro w hSw
    (try dsimp only at hSw)
    go_simp
    all_goals with_reducible rfl
  simp only [Act.put, List.getElem_toArray, List.getElem_cons_succ, List.getElem_cons_zero, List.setIfInBounds_toArray, List.set_cons_zero, List.set_cons_succ]
  refine wpAnyX_one (i := 2) (by kernel_rfl) rfl (fun K hK => ?_)
  go_simp
  refine (cp_sc _ S Wb.drew (hs.below hal.drew) (by omega) (scs_one S)).mono ?_
  rintro e w1 ⟨v1, rfl, o1, b1⟩
  have X2 := Lib.hid (X1.out.drew.below b1 (Nat.lt_of_succ_lt hzb))
  have Y2 := Lib.hid (Y1.out.drew.below b1 hzb)
  have hal1 := hal.drew.trans (b1.mono hal.size)
  have z1 := b1.size
  have HS1 := Lib.hid (show w1.cell? ⟨w.heap.size, 4, none⟩ = some (.slice a1 S.length c1) ∧ w1.cell? ⟨w.heap.size, 5, none⟩ = some (.slice a2 V.length c2) ∧ w1.cell? ⟨w.heap.size, 6, none⟩ = some (.slice a3 M.length c3) ∧ w1.cell? ⟨w.heap.size, 7, none⟩ = some (.slice a4 P.length c4) from ⟨X2.out.cell (j := 4) rfl, X2.out.cell (j := 5) rfl, X2.out.cell (j := 6) rfl, X2.out.cell (j := 7) rfl⟩)
  dsimp only
  refine hK.out _ _ (fun _ => HS1.out) ?_
  clear hK
  try simp only [Act.put, List.getElem_toArray, List.getElem_cons_succ, List.getElem_cons_zero, List.setIfInBounds_toArray, List.set_cons_zero, List.set_cons_succ]
  refine wpAnyX_late (i := 12) (v := ?_) rfl (by kernel_rfl) (by kernel_rfl) (by kernel_rfl) rfl (fun _ _ _ h => h) (Or.inl ⟨by rfl, ?_⟩) ?_
  rotate_left
  · intro w hSw
    go_simp
    all_goals with_reducible rfl
  simp only [Act.put, List.getElem_toArray, List.getElem_cons_succ, List.getElem_cons_zero, List.setIfInBounds_toArray, List.set_cons_zero, List.set_cons_succ]
  refine wpAnyX_one (i := 5) (by kernel_rfl) rfl (fun K hK => ?_)
  go_simp
  refine (cp_vr _ V w1 (hv.below hal1) (by omega) (vrs_one V)).mono ?_
  rintro e w2 ⟨v2, rfl, o2, b2⟩
  have X3 := Lib.hid (X2.out.below b2 (by have := b1.size; have : Wb.drew.heap.size = Wb.heap.size := rfl; omega))
  have Y3 := Lib.hid (Y2.out.below b2 (by have := b1.size; have : Wb.drew.heap.size = Wb.heap.size := rfl; omega))
  have hal2 := hal1.trans (b2.mono hal1.size)
  have z2 := b2.size
  have HS2 := Lib.hid (show w2.cell? ⟨w.heap.size, 4, none⟩ = some (.slice a1 S.length c1) ∧ w2.cell? ⟨w.heap.size, 5, none⟩ = some (.slice a2 V.length c2) ∧ w2.cell? ⟨w.heap.size, 6, none⟩ = some (.slice a3 M.length c3) ∧ w2.cell? ⟨w.heap.size, 7, none⟩ = some (.slice a4 P.length c4) from ⟨X3.out.cell (j := 4) rfl, X3.out.cell (j := 5) rfl, X3.out.cell (j := 6) rfl, X3.out.cell (j := 7) rfl⟩)
  dsimp only
  refine hK.out _ _ (fun _ => HS2.out) ?_
  clear hK
  try simp only [Act.put, List.getElem_toArray, List.getElem_cons_succ, List.getElem_cons_zero, List.setIfInBounds_toArray, List.set_cons_zero, List.set_cons_succ]
  refine wpAnyX_one (i := 8) (by kernel_rfl) rfl (fun K hK => ?_)
  go_simp
  refine (cp_sg _ M w2 (hg.below hal2).s (by rw [HML.out]; omega) (sgs_one M (fun x hx => slice_one (hg.m x hx)))).mono ?_
  rintro e w3 ⟨v3, rfl, o3, b3⟩
  have X4 := Lib.hid (X3.out.below b3 (by have := b1.size; have := b2.size; have : Wb.drew.heap.size = Wb.heap.size := rfl; omega))
  have Y4 := Lib.hid (Y3.out.below b3 (by have := b1.size; have := b2.size; have : Wb.drew.heap.size = Wb.heap.size := rfl; omega))
  have hal3 := hal2.trans (b3.mono hal2.size)
  have z3 := b3.size
  have HS3 := Lib.hid (show w3.cell? ⟨w.heap.size, 4, none⟩ = some (.slice a1 S.length c1) ∧ w3.cell? ⟨w.heap.size, 5, none⟩ = some (.slice a2 V.length c2) ∧ w3.cell? ⟨w.heap.size, 6, none⟩ = some (.slice a3 M.length c3) ∧ w3.cell? ⟨w.heap.size, 7, none⟩ = some (.slice a4 P.length c4) from ⟨X4.out.cell (j := 4) rfl, X4.out.cell (j := 5) rfl, X4.out.cell (j := 6) rfl, X4.out.cell (j := 7) rfl⟩)
  dsimp only
  refine hK.out _ _ (fun _ => HS3.out) ?_
  clear hK
  try simp only [Act.put, List.getElem_toArray, List.getElem_cons_succ, List.getElem_cons_zero, List.setIfInBounds_toArray, List.set_cons_zero, List.set_cons_succ]
  refine wpAnyX_one (i := 11) (by kernel_rfl) rfl (fun K hK => ?_)
  go_simp
  refine (cp_gp _ P w3 (hq.below hal3) (by omega) (gps_one P)).mono ?_
  rintro e w4 ⟨v4, rfl, o4, b4⟩
  have hdz : Wb.drew.heap.size = Wb.heap.size := rfl
  have z4 := b4.size
  have X5 := Lib.hid (X4.out.below b4 (by omega))
  have Y5 := Lib.hid (Y4.out.below b4 (by omega))
  have hal4 := hal3.trans (b4.mono hal3.size)
  have HS4 := Lib.hid (show w4.cell? ⟨w.heap.size, 4, none⟩ = some (.slice a1 S.length c1) ∧ w4.cell? ⟨w.heap.size, 5, none⟩ = some (.slice a2 V.length c2) ∧ w4.cell? ⟨w.heap.size, 6, none⟩ = some (.slice a3 M.length c3) ∧ w4.cell? ⟨w.heap.size, 7, none⟩ = some (.slice a4 P.length c4) from ⟨X5.out.cell (j := 4) rfl, X5.out.cell (j := 5) rfl, X5.out.cell (j := 6) rfl, X5.out.cell (j := 7) rfl⟩)
  dsimp only
  have P1 := Lib.hid (ownsRow_base (below_own (below_own (below_own o1 b2) b3) b4) (Nat.le_refl Wb.heap.size))
  have P2 := Lib.hid (ownsRow_base (below_own (below_own o2 b3) b4) (show Wb.heap.size ≤ _ by omega))
  have P3 := Lib.hid (ownsRow_base (below_own o3 b4) (show Wb.heap.size ≤ _ by omega))
  have P4 := Lib.hid (ownsRow_base o4 (show Wb.heap.size ≤ _ by omega))
  have HB4 := Lib.hid hal4
  obtain ⟨e1, j1, rfl, -, -⟩ := (SlR.of_own P1.out).shape
  obtain ⟨e2, j2, rfl, -, -⟩ := (SlR.of_own P2.out).shape
  obtain ⟨e3, j3, rfl, -, -⟩ := (SlR.of_own P3.out).shape
  obtain ⟨e4, j4, rfl, -, -⟩ := (SlR.of_own P4.out).shape
  clear o1 o2 o3 o4 b1 b2 b3 b4 X1 X2 X3 X4 Y1 Y2 Y3 Y4 HS HS1 HS2 HS3 d4 d5 d6 d7 hal1 hal2 hal3 hal4 z1 z2 z3 z4 hdz
  refine hK.out _ _ (fun _ => HS4.out) ?_
  clear hK
  try simp only [Act.put, List.getElem_toArray, List.getElem_cons_succ, List.getElem_cons_zero, List.setIfInBounds_toArray, List.set_cons_zero, List.set_cons_succ]
  refine wpAnyX_one (i := 13) (by kernel_rfl) rfl (fun K hK => ?_)
  have fr := X5.out.free (j := 4) (by simp)
  have ce := X5.out.cell (j := 4) rfl
  go_simp
  clear fr ce
  refine hK.out _ _ (fun h => absurd h (by decide)) ?_
  clear hK
  try simp only [Act.put, List.getElem_toArray, List.getElem_cons_succ, List.getElem_cons_zero, List.setIfInBounds_toArray, List.set_cons_zero, List.set_cons_succ]
  have X6 := Lib.hid (X5.out.set (j := 4) (by simp) (.slice e1 S.length j1))
  refine wpAnyX_late (i := 14) (v := ?_) rfl (by kernel_rfl) (by kernel_rfl) (by kernel_rfl) rfl (fun _ _ _ h => h) (Or.inl ⟨by rfl, ?_⟩) ?_
  rotate_left
  · intro w hSw
    go_simp
    all_goals with_reducible rfl
  simp only [Act.put, List.getElem_toArray, List.getElem_cons_succ, List.getElem_cons_zero, List.setIfInBounds_toArray, List.set_cons_zero, List.set_cons_succ]
  refine wpAnyX_one (i := 15) (by kernel_rfl) rfl (fun K hK => ?_)
  have fr := X6.out.free (j := 5) (by simp)
  have ce := X6.out.cell (j := 5) rfl
  go_simp
  clear fr ce
  refine hK.out _ _ (fun h => absurd h (by decide)) ?_
  clear hK
  try simp only [Act.put, List.getElem_toArray, List.getElem_cons_succ, List.getElem_cons_zero, List.setIfInBounds_toArray, List.set_cons_zero, List.set_cons_succ]
  have X7 := Lib.hid (X6.out.set (j := 5) (by simp) (.slice e2 V.length j2))
  refine wpAnyX_late (i := 16) (v := ?_) rfl (by kernel_rfl) (by kernel_rfl) (by kernel_rfl) rfl (fun _ _ _ h => h) (Or.inl ⟨by rfl, ?_⟩) ?_
  rotate_left
  · intro w hSw
    go_simp
    all_goals with_reducible rfl
  simp only [Act.put, List.getElem_toArray, List.getElem_cons_succ, List.getElem_cons_zero, List.setIfInBounds_toArray, List.set_cons_zero, List.set_cons_succ]
  refine wpAnyX_one (i := 17) (by kernel_rfl) rfl (fun K hK => ?_)
  have fr := X7.out.free (j := 6) (by simp)
  have ce := X7.out.cell (j := 6) rfl
  go_simp
  clear fr ce
  refine hK.out _ _ (fun h => absurd h (by decide)) ?_
  clear hK
  try simp only [Act.put, List.getElem_toArray, List.getElem_cons_succ, List.getElem_cons_zero, List.setIfInBounds_toArray, List.set_cons_zero, List.set_cons_succ]
  have X8 := Lib.hid (X7.out.set (j := 6) (by simp) (.slice e3 M.length j3))
  refine wpAnyX_late (i := 18) (v := ?_) rfl (by kernel_rfl) (by kernel_rfl) (by kernel_rfl) rfl (fun _ _ _ h => h) (Or.inl ⟨by rfl, ?_⟩) ?_
  rotate_left
  · intro w hSw
    go_simp
    all_goals with_reducible rfl
  simp only [Act.put, List.getElem_toArray, List.getElem_cons_succ, List.getElem_cons_zero, List.setIfInBounds_toArray, List.set_cons_zero, List.set_cons_succ]
  refine wpAnyX_one (i := 19) (by kernel_rfl) rfl (fun K hK => ?_)
  have fr := X8.out.free (j := 7) (by simp)
  have ce := X8.out.cell (j := 7) rfl
  go_simp
  clear fr ce
  refine hK.out _ _ (fun h => absurd h (by decide)) ?_
  clear hK
  try simp only [Act.put, List.getElem_toArray, List.getElem_cons_succ, List.getElem_cons_zero, List.setIfInBounds_toArray, List.set_cons_zero, List.set_cons_succ]
  have X9 := Lib.hid (X8.out.set (j := 7) (by simp) (.slice e4 P.length j4))
  refine ⟨by kernel_rfl, ?_⟩
  have hbz : w.heap.size < Wb.heap.size := by omega
  have HLI := Lib.hid (show ClI w Wb.heap.size ⟨sc, dt, vn, cm, S, V, G, P, en⟩ (.slice e1 S.length j1) (.slice e2 V.length j2) (.slice e3 M.length j3) (.slice e4 P.length j4) M 0 _ from
    { x := X9.out
      y := by
        have hne : ∀ j u (Wx : World), OwnRow Wx (w.heap.size + 1) [.int .i64 0, .string ⟨#[]⟩, .string ⟨#[]⟩, .string ⟨#[]⟩, .slice none 0 0, .slice none 0 0, .slice none 0 0, .slice none 0 0, .int .i64 0] → OwnRow (Wx.setCell ⟨w.heap.size, j, none⟩ u) (w.heap.size + 1) [.int .i64 0, .string ⟨#[]⟩, .string ⟨#[]⟩, .string ⟨#[]⟩, .slice none 0 0, .slice none 0 0, .slice none 0 0, .slice none 0 0, .int .i64 0] := fun j u Wx h => OwnRow.other h (by simp) u
        exact hne _ _ _ (hne _ _ _ (hne _ _ _ (hne _ _ _ Y5.out)))
      s := ownsRow_setCell_below (ownsRow_setCell_below (ownsRow_setCell_below (ownsRow_setCell_below P1.out hbz _) hbz _) hbz _) hbz _
      v := ownsRow_setCell_below (ownsRow_setCell_below (ownsRow_setCell_below (ownsRow_setCell_below P2.out hbz _) hbz _) hbz _) hbz _
      q := ownsRow_setCell_below (ownsRow_setCell_below (ownsRow_setCell_below (ownsRow_setCell_below P4.out hbz _) hbz _) hbz _) hbz _
      g := ⟨[], rfl, HM.out, ownsRow_setCell_below (ownsRow_setCell_below (ownsRow_setCell_below (ownsRow_setCell_below P3.out hbz _) hbz _) hbz _) hbz _, by simp⟩
      b := (((HB4.out.setCell (by simp) _).setCell (by simp) _).setCell (by simp) _).setCell (by simp) _ })
  clear X5 X6 X7 X8 X9 Y5 P1 P2 P3 P4 HB4 HS4
  generalize ((((w4.setCell _ _).setCell _ _).setCell _ _).setCell _ _) = W at *
  have ce := HLI.out.x.cell (j := 6) rfl
  go_wp2_with fail
  go_loopw [23] (fun i wr => ∃ k : Nat, k ≤ M.length ∧ i = .int .i64 k ∧ ClI w Wb.heap.size ⟨sc, dt, vn, cm, S, V, G, P, en⟩ (.slice e1 S.length j1) (.slice e2 V.length j2) (.slice e3 M.length j3) (.slice e4 P.length j4) M k wr) (fun i _ => M.length - (intOf i).toNat)
  case atStart => exact ⟨0, Nat.zero_le _, rfl, HLI.out⟩
  case round =>
    obtain ⟨k, hk, rfl, hC⟩ := hrel
    have HC := Lib.hid hC
    clear hC ce
    by_cases hlt : k < M.length
    · obtain ⟨A, hA, hN, hO, hR⟩ := HC.out.g
      have hMG : M[k].1 ∈ G := by rw [← HM.out]; exact List.mem_map_of_mem (List.getElem_mem hlt)
      have hfx := f5 _ hMG
      have hmx := hg.m M[k] (List.getElem_mem hlt)
      rw [List.drop_eq_getElem_cons hlt] at hO hN
      generalize M[k] = x at *
      obtain ⟨x, vx⟩ := x
      dsimp only at hfx hmx
      rcases hO.2 with ⟨-, h0⟩ | ⟨g, cap', cur, e0, -⟩
      · omega
      injection e0 with e0 _ e1
      subst e0 e1
      have hlo := own_lo hO (g := g) rfl
      have d2 : wr.cell? ⟨g, k * 3 + 2, none⟩ = some vx := by
        obtain ⟨a', c', ev, -, -, -, h4⟩ := SlR.of_own hO
        obtain ⟨b', o', rfl, hat⟩ := h4 (by omega)
        injection ev with ev _ _
        injection ev with ev
        injection ev with ev1 ev2 _
        subst ev1 ev2
        have := hat (A.length * 3 + 2) vx (by rw [sgs_app, sgs_cons, List.getElem?_append_right (by rw [sgs_len]; omega), sgs_len, show A.length * 3 + 2 - 3 * A.length = 2 by omega]; rfl)
        rw [hA, Nat.zero_add] at this
        exact this
      have f2 := own_frozen hO (k * 3 + 2)
      have HO := Lib.hid hO
      have HR := Lib.hid hR
      have HN := Lib.hid hN
      have HA := Lib.hid hA
      have HMX := Lib.hid (hmx.below HC.out.b)
      have c6 := HC.out.x.cell (j := 6) rfl
      have HS := Lib.hid (show wr.drew.cell? ⟨w.heap.size, 6, none⟩ = some (.slice (some ⟨g, 0, none⟩) M.length j3) from c6)
      clear hO hR hN hA hmx
      go_wp2_with fail
      refine wp_region_late (S := fun w' => w'.cell? ⟨w.heap.size, 6, none⟩ = some (.slice (some ⟨g, 0, none⟩) M.length j3)) (X := fun j => decide (12 ≤ j)) (by kernel_rfl) ?_
      refine wpAnyX_take (i := 0) (v := ?_) rfl (by kernel_rfl) (by kernel_rfl) (by kernel_rfl) (by kernel_rfl) (fun _ _ _ h => h) (Or.inl ⟨by rfl, ?_⟩) HS.out ?_
      rotate_left
      · intro w hSw
        (try dsimp only at hSw)
        go_simp
        all_goals with_reducible rfl
      simp only [Act.put, List.getElem_toArray, List.getElem_cons_succ, List.getElem_cons_zero, List.setIfInBounds_toArray, List.set_cons_zero, List.set_cons_succ]
      refine wpAnyX_take (i := 1) (v := ?_) rfl (by kernel_rfl) (by kernel_rfl) (by kernel_rfl) (by kernel_rfl) (fun _ _ _ h => h) (Or.inl ⟨by rfl, ?_⟩) HS.out ?_
      rotate_left
      · intro w hSw
        (try dsimp only at hSw)
        go_simp
        all_goals with_reducible rfl
      simp only [Act.put, List.getElem_toArray, List.getElem_cons_succ, List.getElem_cons_zero, List.setIfInBounds_toArray, List.set_cons_zero, List.set_cons_succ]
      refine wpAnyX_take (i := 2) (v := ?_) rfl (by kernel_rfl) (by kernel_rfl) (by kernel_rfl) (by kernel_rfl) (fun _ _ _ h => h) (Or.inl ⟨by rfl, ?_⟩) HS.out ?_
      rotate_left
      · intro w hSw
        (try dsimp only at hSw)
        go_simp
        all_goals with_reducible rfl
      simp only [Act.put, List.getElem_toArray, List.getElem_cons_succ, List.getElem_cons_zero, List.setIfInBounds_toArray, List.set_cons_zero, List.set_cons_succ]
      refine wpAnyX_take (i := 3) (v := ?_) rfl (by kernel_rfl) (by kernel_rfl) (by kernel_rfl) (by kernel_rfl) (fun _ _ _ h => h) (Or.inl ⟨by rfl, ?_⟩) HS.out ?_
      rotate_left
      · intro w hSw
        (try dsimp only at hSw)
        go_simp
        all_goals with_reducible rfl
      simp only [Act.put, List.getElem_toArray, List.getElem_cons_succ, List.getElem_cons_zero, List.setIfInBounds_toArray, List.set_cons_zero, List.set_cons_succ]
      refine wpAnyX_take (i := 4) (v := ?_) rfl (by kernel_rfl) (by kernel_rfl) (by kernel_rfl) (by kernel_rfl) (fun _ _ _ h => h) (Or.inl ⟨by rfl, ?_⟩) HS.out ?_
      rotate_left
      · intro w hSw
        (try dsimp only at hSw)
        go_simp
        all_goals with_reducible rfl
      simp only [Act.put, List.getElem_toArray, List.getElem_cons_succ, List.getElem_cons_zero, List.setIfInBounds_toArray, List.set_cons_zero, List.set_cons_succ]
      refine wpAnyX_take (i := 5) (v := ?_) rfl (by kernel_rfl) (by kernel_rfl) (by kernel_rfl) (by kernel_rfl) (fun _ _ _ h => h) (Or.inl ⟨by rfl, ?_⟩) HS.out ?_
      rotate_left
      · intro w hSw
        (try dsimp only at hSw)
        go_simp
        all_goals with_reducible rfl
      simp only [Act.put, List.getElem_toArray, List.getElem_cons_succ, List.getElem_cons_zero, List.setIfInBounds_toArray, List.set_cons_zero, List.set_cons_succ]
      refine wpAnyX_take (i := 6) (v := ?_) rfl (by kernel_rfl) (by kernel_rfl) (by kernel_rfl) (by kernel_rfl) (fun _ _ _ h => h) (Or.inl ⟨by rfl, ?_⟩) HS.out ?_
      rotate_left
      · intro w hSw
        (try dsimp only at hSw)
        go_simp
        all_goals with_reducible rfl
      simp only [Act.put, List.getElem_toArray, List.getElem_cons_succ, List.getElem_cons_zero, List.setIfInBounds_toArray, List.set_cons_zero, List.set_cons_succ]
      refine wpAnyX_take (i := 7) (v := ?_) rfl (by kernel_rfl) (by kernel_rfl) (by kernel_rfl) (by kernel_rfl) (fun _ _ _ h => h) (Or.inl ⟨by rfl, ?_⟩) HS.out ?_
      rotate_left
      · intro w hSw
        (try dsimp only at hSw)
        go_simp
        all_goals with_reducible rfl
      simp only [Act.put, List.getElem_toArray, List.getElem_cons_succ, List.getElem_cons_zero, List.setIfInBounds_toArray, List.set_cons_zero, List.set_cons_succ]
      refine wpAnyX_one (i := 8) (by kernel_rfl) rfl (fun K hK => ?_)
      go_simp
      refine hK.out _ _ (fun _ => HS.out) ?_
      clear hK
      try simp only [Act.put, List.getElem_toArray, List.getElem_cons_succ, List.getElem_cons_zero, List.setIfInBounds_toArray, List.set_cons_zero, List.set_cons_succ]
      refine wpAnyX_one (i := 9) (by kernel_rfl) rfl (fun K hK => ?_)
      go_simp
      refine (cp_ch vx x.2.2 wr.drew (HMX.out.below ((Below.refl _ _).drew)) (by omega) (chs_one _)).mono ?_
      rintro e w5 ⟨v5, rfl, o5, b5⟩
      dsimp only
      have hdz : wr.drew.heap.size = wr.heap.size := rfl
      have z5 := b5.size
      have X5 := Lib.hid (HC.out.x.drew.below b5 (by omega))
      have f5' : w5.frozen? ⟨g, k * 3 + 2, none⟩ = false := by rw [b5.frozen (p := ⟨g, k * 3 + 2, none⟩) (by show g < _; omega)]; exact f2
      have c5 : w5.cell? ⟨g, k * 3 + 2, none⟩ = some vx := by rw [b5.cell (p := ⟨g, k * 3 + 2, none⟩) (by show g < _; omega)]; exact d2
      have HS5 := Lib.hid (X5.out.cell (j := 6) rfl)
      obtain ⟨va, vc, rfl, -, -⟩ := (SlR.of_own o5).shape
      refine hK.out _ _ (fun _ => HS5.out) ?_
      clear hK
      try simp only [Act.put, List.getElem_toArray, List.getElem_cons_succ, List.getElem_cons_zero, List.setIfInBounds_toArray, List.set_cons_zero, List.set_cons_succ]
      refine wpAnyX_one (i := 10) (by kernel_rfl) rfl (fun K hK => ?_)
      go_simp
      refine hK.out _ _ (fun _ => HS5.out) ?_
      clear hK
      try simp only [Act.put, List.getElem_toArray, List.getElem_cons_succ, List.getElem_cons_zero, List.setIfInBounds_toArray, List.set_cons_zero, List.set_cons_succ]
      refine wpAnyX_one (i := 11) (by kernel_rfl) rfl (fun K hK => ?_)
      go_simp
      refine hK.out _ _ (fun _ => HS5.out) ?_
      clear hK
      try simp only [Act.put, List.getElem_toArray, List.getElem_cons_succ, List.getElem_cons_zero, List.setIfInBounds_toArray, List.set_cons_zero, List.set_cons_succ]
      refine wpAnyX_one (i := 12) (by kernel_rfl) rfl (fun K hK => ?_)
      go_simp
      refine hK.out _ _ (fun h => absurd h (by decide)) ?_
      clear hK
      try simp only [Act.put, List.getElem_toArray, List.getElem_cons_succ, List.getElem_cons_zero, List.setIfInBounds_toArray, List.set_cons_zero, List.set_cons_succ]
      refine ⟨by kernel_rfl, ?_⟩
      clear d2 f2 c6 f5' c5
      go_wp2_with fail
      go_roundw
      case rel =>
        refine ⟨k + 1, hlt, by go_num, ?_⟩
        have hwb := HC.out.b.size
        have sg5 := below_own HO.out.drew b5
        have hu := own_set sg5 (k * 3 + 2) (.slice va x.2.2.length vc)
        have hlen : (A ++ (x, .slice va x.2.2.length vc) :: M.drop (k + 1)) = (A ++ [(x, .slice va x.2.2.length vc)]) ++ M.drop (k + 1) := by simp
        rw [← HA.out, sgs_set, HA.out, hlen] at hu
        exact
          { x := X5.out.other (by show g ≠ _; omega) _
            y := (HC.out.y.drew.below b5 (by omega)).other (by show g ≠ _; omega) _
            s := ownsRow_setCell_other (a := ⟨g, k * 3 + 2, none⟩) (below_own HC.out.s.drew b5) (own_ne (below_own HC.out.s.drew b5) sg5 (by decide) rfl) _
            v := ownsRow_setCell_other (a := ⟨g, k * 3 + 2, none⟩) (below_own HC.out.v.drew b5) (own_ne (below_own HC.out.v.drew b5) sg5 (by decide) rfl) _
            q := ownsRow_setCell_other (a := ⟨g, k * 3 + 2, none⟩) (below_own HC.out.q.drew b5) (own_ne (below_own HC.out.q.drew b5) sg5 (by decide) rfl) _
            g := ⟨A ++ [(x, .slice va x.2.2.length vc)], by rw [List.length_append, HA.out]; rfl, by rw [← hlen]; have := HN.out; simpa using this, hu, fun y hy => by
              rcases List.mem_append.1 hy with hy | hy
              · exact ownsRow_setCell_other (a := ⟨g, k * 3 + 2, none⟩) (below_own (HR.out y hy).drew b5) (own_ne (below_own (HR.out y hy).drew b5) sg5 (by decide) rfl) _
              · obtain rfl := List.mem_singleton.1 hy
                exact ownsRow_setCell_other (a := ⟨g, k * 3 + 2, none⟩) (ownsRow_base (base' := Wb.heap.size) o5 (by omega)) (own_ne o5 sg5 (by decide) rfl) _⟩
            b := (HC.out.b.drew.trans (b5.mono hwb)).setCell (by show w.heap.size ≤ g; omega) _ }
      case measure => simp [intOf]; omega
    · obtain rfl : k = M.length := by omega
      have cx0 := HC.out.x.cell (j := 0) rfl
      have cy0 := HC.out.y.cell (j := 0) rfl
      have fy0 := HC.out.y.free (j := 0) (by simp)
      have cx1 := HC.out.x.cell (j := 1) rfl
      have cy1 := HC.out.y.cell (j := 1) rfl
      have fy1 := HC.out.y.free (j := 1) (by simp)
      have cx2 := HC.out.x.cell (j := 2) rfl
      have cy2 := HC.out.y.cell (j := 2) rfl
      have fy2 := HC.out.y.free (j := 2) (by simp)
      have cx3 := HC.out.x.cell (j := 3) rfl
      have cy3 := HC.out.y.cell (j := 3) rfl
      have fy3 := HC.out.y.free (j := 3) (by simp)
      have cx4 := HC.out.x.cell (j := 4) rfl
      have cy4 := HC.out.y.cell (j := 4) rfl
      have fy4 := HC.out.y.free (j := 4) (by simp)
      have cx5 := HC.out.x.cell (j := 5) rfl
      have cy5 := HC.out.y.cell (j := 5) rfl
      have fy5 := HC.out.y.free (j := 5) (by simp)
      have cx6 := HC.out.x.cell (j := 6) rfl
      have cy6 := HC.out.y.cell (j := 6) rfl
      have fy6 := HC.out.y.free (j := 6) (by simp)
      have cx7 := HC.out.x.cell (j := 7) rfl
      have cy7 := HC.out.y.cell (j := 7) rfl
      have fy7 := HC.out.y.free (j := 7) (by simp)
      have cx8 := HC.out.x.cell (j := 8) rfl
      have cy8 := HC.out.y.cell (j := 8) rfl
      have fy8 := HC.out.y.free (j := 8) (by simp)
      go_wp2_with fail
      clear cx0 cy0 fy0
      clear cx1 cy1 fy1
      clear cx2 cy2 fy2
      clear cx3 cy3 fy3
      clear cx4 cy4 fy4
      clear cx5 cy5 fy5
      clear cx6 cy6 fy6
      clear cx7 cy7 fy7
      clear cx8 cy8 fy8
      have HR := Lib.hid (set9_row HC.out.y (.int .i64 sc) (.string (bsB dt)) (.string (bsB vn)) (.string (bsB cm)) (.slice e1 S.length j1) (.slice e2 V.length j2) (.slice e3 M.length j3) (.slice e4 P.length j4) (.int .i64 en))
      have HP := Lib.hid (fun (B e size n : Nat) (v : Value) (xs : List Value) (h : wr.ownsRow B e size v n xs) (hb : w.heap.size + 1 < B) => set9_own h hb (.int .i64 sc) (.string (bsB dt)) (.string (bsB vn)) (.string (bsB cm)) (.slice e1 S.length j1) (.slice e2 V.length j2) (.slice e3 M.length j3) (.slice e4 P.length j4) (.int .i64 en))
      have HBB := Lib.hid (set9_below HC.out.b (Nat.le_succ w.heap.size) (.int .i64 sc) (.string (bsB dt)) (.string (bsB vn)) (.string (bsB cm)) (.slice e1 S.length j1) (.slice e2 V.length j2) (.slice e3 M.length j3) (.slice e4 P.length j4) (.int .i64 en))
      unfold set9 at HR HP HBB
      generalize (((((((((wr.setCell _ _).setCell _ _).setCell _ _).setCell _ _).setCell _ _).setCell _ _).setCell _ _).setCell _ _).setCell _ _) = Wf at *
      have cx0 := HR.out.cell (j := 0) rfl
      have cx1 := HR.out.cell (j := 1) rfl
      have cx2 := HR.out.cell (j := 2) rfl
      have cx3 := HR.out.cell (j := 3) rfl
      have cx4 := HR.out.cell (j := 4) rfl
      have cx5 := HR.out.cell (j := 5) rfl
      have cx6 := HR.out.cell (j := 6) rfl
      have cx7 := HR.out.cell (j := 7) rfl
      have cx8 := HR.out.cell (j := 8) rfl
      refine bodyPost_ret (v := .agg #[.int .i64 sc, .string (bsB dt), .string (bsB vn), .string (bsB cm), .slice e1 S.length j1, .slice e2 V.length j2, .slice e3 M.length j3, .slice e4 P.length j4, .int .i64 en]) (by simp [results, Tryz.results30, go_sem, *]) rfl ?_
      obtain ⟨A, hA, hN, hO, hR⟩ := HC.out.g
      rw [List.drop_length, List.append_nil] at hN hO
      have hwl := Nat.le_of_lt hbz
      exact ⟨⟨.slice e1 S.length j1, .slice e2 V.length j2, .slice e3 M.length j3, .slice e4 P.length j4, A⟩, rfl, ⟨ownsRow_base (HP.out _ _ _ _ _ _ HC.out.s hzb) hwl, ownsRow_base (HP.out _ _ _ _ _ _ HC.out.v hzb) hwl,
        by show World.ownsRow _ _ _ _ _ A.length _; rw [hA]; exact ownsRow_base (HP.out _ _ _ _ _ _ hO hzb) hwl,
        fun x hx => ownsRow_base (HP.out _ _ _ _ _ _ (hR x hx) hzb) hwl, ownsRow_base (HP.out _ _ _ _ _ _ HC.out.q hzb) hwl, hN⟩, HBB.out⟩
end Go.Proofs.YtbiadennhnokhaaGreatDoor
/- Plain: the words of a text: what strings.Split gives, and what strings.Join gives back. -/
namespace Go.Proofs.YtbiadennhnokhaaGreatDoor

/-- the parts, the first one apart -/
theorem spl_cur : ∀ (s : Bs), ∃ a r, spl s [] = a :: r ∧ (∀ cur, spl s cur = (cur ++ a) :: r) ∧ a ++ Lib.joinTail [32] r = s
  | [] => ⟨[], [], rfl, fun cur => by simp [spl], rfl⟩
  | c :: t => by
    obtain ⟨a, r, h1, h2, h3⟩ := spl_cur t
    by_cases hc : c = 32
    · subst hc
      refine ⟨[], a :: r, by rw [spl, if_pos rfl, h1], fun cur => by rw [spl, if_pos rfl, h1, List.append_nil], ?_⟩
      show [] ++ (32 :: a ++ Lib.joinTail [32] r) = _
      simp [h3]
    · refine ⟨c :: a, r, by rw [spl, if_neg hc, h2]; rfl, fun cur => by rw [spl, if_neg hc, h2, List.append_assoc]; rfl, ?_⟩
      rw [List.cons_append, h3]
theorem spl_join (s : Bs) : Lib.join (spl s []) [32] = s := by
  obtain ⟨a, r, h1, -, h3⟩ := spl_cur s
  rw [h1, Lib.join_cons, h3]
theorem ix_cons_eq (t : Bs) : Lib.index (32 :: t) [32] = 0 := by rw [Lib.index_one]; rfl
theorem ix_cons_ne {c : UInt8} (hc : c ≠ 32) (t : Bs) : Lib.index (c :: t) [32] = if Lib.index t [32] = -1 then -1 else Lib.index t [32] + 1 := by
  rw [Lib.index_one, Lib.index_one, Lib.indexByte, if_neg (by simpa using hc)]
  simp
theorem ix_some {t : Bs} (h : t.count 32 ≠ 0) : 0 ≤ Lib.index t [32] := by
  induction t with
  | nil => simp at h
  | cons c t ih =>
    by_cases hc : c = 32
    · subst hc; rw [ix_cons_eq]; omega
    · rw [List.count_cons_of_ne (by simpa using hc)] at h
      have := ih h
      rw [ix_cons_ne hc, if_neg (by omega)]
      omega
theorem split_spl : ∀ (s : Bs), Lib.splitK [32] 0 (s.count 32) s = spl s []
  | [] => rfl
  | c :: t => by
    have ih := split_spl t
    obtain ⟨a, r, h1, h2, -⟩ := spl_cur t
    by_cases hc : c = 32
    · subst hc
      rw [List.count_cons_self, Lib.splitK, if_neg (by rw [ix_cons_eq]; decide), ix_cons_eq, spl, if_pos rfl, ← ih]
      rfl
    · rw [List.count_cons_of_ne (by simpa using hc), spl, if_neg hc, h2]
      rw [h1] at ih
      cases hk : t.count 32 with
      | zero =>
        rw [hk, Lib.splitK] at ih
        injection ih with e1 e2
        subst e1 e2
        rfl
      | succ k =>
        have hi := ix_some (t := t) (by omega)
        rw [hk, Lib.splitK, if_neg (by rw [beq_iff_eq]; omega)] at ih
        injection ih with e1 e2
        have hx : Lib.index (c :: t) [32] = Lib.index t [32] + 1 := by rw [ix_cons_ne hc, if_neg (by omega)]
        rw [Lib.splitK, hx, if_neg (by rw [beq_iff_eq]; omega)]
        obtain ⟨i, hi2⟩ := Int.eq_ofNat_of_zero_le hi
        rw [hi2] at e1 e2 ⊢
        subst e1 e2
        rw [show ((i : Int) + 1).toNat = i + 1 by omega, Int.toNat_natCast]
        show (c :: t).take (i + 1) :: Lib.splitK [32] 0 k ((c :: t).drop (i + 1 + 1)) = _
        rw [List.take_succ_cons, List.drop_succ_cons]
        rfl
/-- what strings.Split gives at a single blank -/
theorem splitB_spl (s : Bs) : (Lib.splitB ⟨#[32]⟩ 0 (Lib.countB (bsB s) ⟨#[32]⟩) (bsB s)).map (fun x => x.data.toList) = spl s [] := by
  rw [Lib.splitB_data]
  have e1 : Lib.countB (bsB s) ⟨#[32]⟩ = s.count 32 := by
    show Lib.count (bsB s).data.toList [32] = _
    rw [Lib.count_one]
    simp [bsB]
  rw [e1]
  show Lib.splitK [32] 0 (s.count 32) (bsB s).data.toList = _
  rw [show (bsB s).data.toList = s by simp [bsB], split_spl]
theorem splitB_all1 (s : Bs) : (Lib.splitB ⟨#[32]⟩ 0 (Lib.countB (bsB s) ⟨#[32]⟩) (bsB s)) = (spl s []).map bsB := by
  rw [← splitB_spl, List.map_map]
  conv => lhs; rw [← List.map_id (Lib.splitB ⟨#[32]⟩ 0 (Lib.countB (bsB s) ⟨#[32]⟩) (bsB s))]
  exact List.map_congr_left fun x _ => by
    obtain ⟨⟨l⟩⟩ := x
    rfl
theorem spl_len (s : Bs) : (spl s []).length = s.count 32 + 1 := by
  have := Lib.splitB_all ⟨#[32]⟩ (by decide) 0 _ (bsB s) rfl
  rw [splitB_all1, List.length_map] at this
  rw [this]
  congr 1
  show Lib.count (bsB s).data.toList [32] = _
  rw [Lib.count_one]
  simp [bsB]
end Go.Proofs.YtbiadennhnokhaaGreatDoor
/- name.Valid. -/
namespace Go.Proofs.YtbiadennhnokhaaGreatDoor
open Go.RowKit
set_option linter.unusedSimpArgs false

theorem any_esc : ∀ (s : Bs), Lib.containsAny s [92, 46, 91, 93] = s.any fun d => d == 92 || d == 46 || d == 91 || d == 93
  | [] => rfl
  | b :: l => by
    have ih := any_esc l
    unfold Lib.containsAny at ih ⊢
    rw [List.any_cons, ← ih, Lib.indexAny]
    have hge := Lib.indexAny_ge [92, 46, 91, 93] l
    have hb : [92, 46, 91, 93].contains b = (b == 92 || b == 46 || b == 91 || b == 93) := by
      simp only [List.contains_cons, List.contains_nil, Bool.or_false, Bool.or_assoc]
    rw [hb]
    cases h : (b == 92 || b == 46 || b == 91 || b == 93)
    · rw [if_neg (by simp), Bool.false_or]
      by_cases h1 : Lib.indexAny l [92, 46, 91, 93] = -1
      · rw [if_pos (by simp [h1]), h1]
      · rw [if_neg (by simp [h1])]
        rw [Bool.eq_iff_iff, decide_eq_true_iff, decide_eq_true_iff]
        omega
    · rw [if_pos rfl, Bool.true_or]
      rfl
theorem nm_any (s : ByteArray) (w : World) (hs : s.data.toList.all prn = true) (hm : s.size ≤ 1000) :
    Calls Tryz.prog 263 #[.string s, .string ⟨#[92, 46, 91, 93]⟩] w fun e w' => e = .returned (.bool (s.data.toList.any fun d => d == 92 || d == 46 || d == 91 || d == 93)) ∧ Below w.heap.size w w' := by
  refine (Tryz.strings_ContainsAny_laid s ⟨#[92, 46, 91, 93]⟩ w (by omega) (by decide) ?_ ?_).mono ?_
  · intro j b hb
    have := List.all_eq_true.1 hs b (List.mem_of_getElem? hb)
    unfold prn at this
    simp at this
    omega
  · intro j b hb
    have : b ∈ ([92, 46, 91, 93] : List UInt8) := List.mem_of_getElem? hb
    revert this
    simp only [List.mem_cons, List.mem_nil_iff, or_false]
    rintro (rfl | rfl | rfl | rfl) <;> decide
  · rintro e w' ⟨rfl, hb⟩
    exact ⟨by rw [← any_esc], hb⟩
theorem toList_no {s : ByteArray} (h : s.size ≠ 0) : s.toList.isEmpty = false := by
  rw [ByteArray.toList_eq]
  have h1 : s.data.toList.length = s.size := by simp
  cases hh : s.data.toList with
  | nil => rw [hh] at h1; simp at h1; omega
  | cons _ _ => rfl
theorem u8_dec (c : UInt8) (n : Nat) (hn : n < 256) : ((c.toNat : Int) == (n : Int)) = decide (c = UInt8.ofNat n) := by
  rw [Bool.eq_iff_iff, beq_iff_eq, decide_eq_true_iff]
  constructor
  · intro h
    have : c.toNat = n := by omega
    rw [← this, UInt8.ofNat_toNat]
  · rintro rfl
    simp
    omega
set_option maxHeartbeats 800000 in
theorem nm_Valid (s : ByteArray) (w : World) (hm : s.size ≤ 100000) : Calls Tryz.prog 205 #[.string s] w fun e w' => e = .returned (.bool (nameOk s.data.toList)) ∧ Below w.heap.size w w' := by
  have HP := Lib.hid (nm_printable s w (by omega))
  obtain ⟨R, hR⟩ : ∃ R, R = nameOk s.data.toList := ⟨_, rfl⟩
  rw [← hR]
  have hls : s.data.toList.length = s.size := by simp
  by_cases h0 : s.size = 0
  · obtain rfl : s = ⟨#[]⟩ := by
      have : s.data = #[] := Array.eq_empty_of_size_eq_zero h0
      cases s; simp_all
    have HR := Lib.hid (show R = false by rw [hR]; rfl)
    have hb1 : (⟨#[]⟩ : ByteArray).toList.isEmpty = true := by rw [ByteArray.toList_eq]; rfl
    clear hR hls h0 hm HP
    go_enter Tryz.func205, Tryz.ntmps205
    go_wp2_with fail
    go_ret
    exact ⟨ret_bool HR.out.symm, Below.refl _ _⟩
  have hb1 := toList_no h0
  by_cases h32 : 32 < s.size
  · have HR := Lib.hid (show R = false by
      rw [hR]
      unfold nameOk
      rw [decide_eq_false (show ¬ s.data.toList.length ≤ 32 by omega)]
      simp)
    have hb2 : decide ((32 : Int) < (s.size : Int)) = true := by rw [decide_eq_true_iff]; omega
    clear hR hls h0 h32 HP
    go_enter Tryz.func205, Tryz.ntmps205
    go_wp2_with fail
    go_ret
    exact ⟨ret_bool HR.out.symm, Below.refl _ _⟩
  have hb2 : decide ((32 : Int) < (s.size : Int)) = false := by rw [decide_eq_false_iff_not]; omega
  cases hp : s.data.toList.all prn
  · have HR := Lib.hid (show R = false by
      rw [hR]
      unfold nameOk
      rw [hp]
      simp)
    rw [hp] at HP
    clear hR hls h0 h32 hp
    go_enter Tryz.func205, Tryz.ntmps205
    go_wp2_with fail
    refine HP.out.mono ?_
    rintro e w1 ⟨rfl, rfl⟩
    go_wp2_with fail
    go_ret
    exact ⟨ret_bool HR.out.symm, Below.refl _ _⟩
  rw [hp] at HP
  obtain ⟨c, t, hct⟩ : ∃ c t, s.data.toList = c :: t := by
    cases hh : s.data.toList with
    | nil => rw [hh] at hls; simp at hls; omega
    | cons c t => exact ⟨c, t, rfl⟩
  have hR2 : R = if c = 92 then decide (2 ≤ s.size) else decide (c ≠ 36) && !s.data.toList.any fun d => d == 92 || d == 46 || d == 91 || d == 93 := by
    rw [hR]
    unfold nameOk
    rw [hp, decide_eq_true (show s.data.toList ≠ [] by rw [hct]; simp), decide_eq_true (show s.data.toList.length ≤ 32 by omega)]
    rw [hct]
    have hl2 : (c :: t).length = s.size := by rw [← hct]; exact hls
    rw [hl2]
    simp only [Bool.true_and]
  have hcix : ∀ h : 0 < s.size, s[0]'h = c := fun h => by
    have : s[0] = s.data.toList[0]'(by simpa using h) := by simp; rfl
    rw [this]
    simp [hct]
  have h00 : 0 < s.size := by omega
  have HA := Lib.hid (fun W => nm_any s W hp (by omega))
  have e92 := u8_dec c 92 (by decide)
  have e36 := u8_dec c 36 (by decide)
  clear hR hct
  by_cases h92 : c = 92
  · have b3 : ((c.toNat : Int) == 92) = true := by rw [show (92 : Int) = ((92 : Nat) : Int) from rfl, e92]; simp [h92]
    have HR := Lib.hid (show R = decide (2 ≤ s.size) by rw [hR2, if_pos h92])
    clear hR2 hls h0 h32 hp e92 e36 HA h92
    by_cases h2 : 2 ≤ s.size
    · have b4 : decide ((2 : Int) ≤ (s.size : Int)) = true := by rw [decide_eq_true_iff]; omega
      have HR3 := Lib.hid (show R = true by rw [HR.out, decide_eq_true h2])
      clear h2
      go_enter Tryz.func205, Tryz.ntmps205
      go_wp2_with fail
      refine HP.out.mono ?_
      rintro e w1 ⟨rfl, rfl⟩
      go_wp2_with fail
      go_ret
      exact ⟨ret_bool HR3.out.symm, Below.refl _ _⟩
    · have b4 : decide ((2 : Int) ≤ (s.size : Int)) = false := by rw [decide_eq_false_iff_not]; omega
      have HR3 := Lib.hid (show R = false by rw [HR.out, decide_eq_false h2])
      clear h2
      go_enter Tryz.func205, Tryz.ntmps205
      go_wp2_with fail
      refine HP.out.mono ?_
      rintro e w1 ⟨rfl, rfl⟩
      go_wp2_with fail
      go_ret
      exact ⟨ret_bool HR3.out.symm, Below.refl _ _⟩
  · have b3 : ((c.toNat : Int) == 92) = false := by rw [show (92 : Int) = ((92 : Nat) : Int) from rfl, e92]; simpa using h92
    rw [if_neg h92] at hR2
    by_cases h36 : c = 36
    · have b4 : ((c.toNat : Int) == 36) = true := by rw [show (36 : Int) = ((36 : Nat) : Int) from rfl, e36]; simp [h36]
      have b5 : ((c.toNat : Int) != 36) = false := by rw [bne, b4]; rfl
      have HR := Lib.hid (show R = false by rw [hR2, h36]; rfl)
      clear hR2 hls h0 h32 hp e92 e36 HA h92 h36
      go_enter Tryz.func205, Tryz.ntmps205
      go_wp2_with fail
      refine HP.out.mono ?_
      rintro e w1 ⟨rfl, rfl⟩
      go_wp2_with fail
      go_ret
      exact ⟨ret_bool HR.out.symm, Below.refl _ _⟩
    · have b4 : ((c.toNat : Int) == 36) = false := by rw [show (36 : Int) = ((36 : Nat) : Int) from rfl, e36]; simpa using h36
      have b5 : ((c.toNat : Int) != 36) = true := by rw [bne, b4]; rfl
      rw [decide_eq_true h36, Bool.true_and] at hR2
      have HR := Lib.hid hR2
      generalize (s.data.toList.any fun d => d == 92 || d == 46 || d == 91 || d == 93) = q at HA HR
      clear hR2 hls h0 h32 hp e92 e36 h92 h36
      go_enter Tryz.func205, Tryz.ntmps205
      go_wp2_with fail
      refine HP.out.mono ?_
      rintro e w1 ⟨rfl, rfl⟩
      go_wp2_with fail
      refine (HA.out _).mono ?_
      rintro e w1 ⟨rfl, hb⟩
      go_wp2_with fail
      go_ret
      exact ⟨ret_bool HR.out.symm, hb⟩
end Go.Proofs.YtbiadennhnokhaaGreatDoor
