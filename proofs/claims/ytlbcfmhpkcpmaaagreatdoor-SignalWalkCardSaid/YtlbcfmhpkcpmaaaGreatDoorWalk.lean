import Derived.Test.YtlbcfmhpkcpmaaaGreatDoorBack
import Derived.Test.YtlbcfmhpkcpmaaaGreatDoorAw0
import Derived.Test.YtlbcfmhpkcpmaaaGreatDoorWalkP
import Derived.Deep.DeepCutAuto
namespace Go.Proofs.YtlbcfmhpkcpmaaaGreatDoor
open Go.RowKit Go.Shelf
attribute [local go_sem] Oper.semAt_some

/-- the two boxes of the law: its signal, its result -/
structure Bx (w W : World) (k n : Int) (a : Option Addr) (len cap : Nat) : Prop where
  s0 : W.cell? ⟨w.heap.size, 0, none⟩ = some (.int .i64 k)
  s1 : W.cell? ⟨w.heap.size, 1, none⟩ = some (.int .i64 n)
  s2 : W.cell? ⟨w.heap.size, 2, none⟩ = some (.slice a len cap)
  r : W.cell? ⟨w.heap.size + 1, 0, none⟩ = some (.bool false)
  rf : W.frozen? ⟨w.heap.size + 1, 0, none⟩ = false
  below : Below w.heap.size w W
theorem Bx.later {w W W' : World} {k n : Int} {a : Option Addr} {len cap : Nat} (h : Bx w W k n a len cap) (hb : Below W.heap.size W W') : Bx w W' k n a len cap :=
  ⟨(hb.cell (p := ⟨w.heap.size, 0, none⟩) (cell_lt h.s0)).trans h.s0, (hb.cell (p := ⟨w.heap.size, 1, none⟩) (cell_lt h.s1)).trans h.s1, (hb.cell (p := ⟨w.heap.size, 2, none⟩) (cell_lt h.s2)).trans h.s2,
    (hb.cell (p := ⟨w.heap.size + 1, 0, none⟩) (cell_lt h.r)).trans h.r, (hb.frozen (p := ⟨w.heap.size + 1, 0, none⟩) (cell_lt h.r)).trans h.rf, ext_trans h.below hb⟩
theorem Bx.start {w W : World} {k n : Int} {a : Option Addr} {len cap : Nat} {T U : TypeId}
    (hb : Below ((w.alloc (.cells #[.int .i64 k, .int .i64 n, .slice a len cap] T)).alloc (.cells #[.bool false] U)).heap.size ((w.alloc (.cells #[.int .i64 k, .int .i64 n, .slice a len cap] T)).alloc (.cells #[.bool false] U)) W) : Bx w W k n a len cap := by
  obtain ⟨c0, c1, c2⟩ := box3 (ext_alloc hb)
  have hr := boxN hb 0
  rw [World.size_alloc] at hr
  exact ⟨c0, c1, c2, hr.1, hr.2, ext_alloc (ext_alloc hb)⟩

theorem act_of {P : Program} {c : Code} {Q : Exit → Act → World → Prop} {a : Act} {w : World} (h : ∀ A0, a = A0 → c.wp P Q a w) : c.wp P Q a w := h a rfl
/-- what has come is the changes from the end -/
def chk (l : List Ch) (pre : List BX) : Prop := pre.map Prod.snd = (upto (back l) pre.length).map Prod.snd
theorem chk_snoc (l : List Ch) (pre : List BX) (x : BX) (h : chk l pre) : (x.2 = (back l pre.length).2 → chk l (pre ++ [x])) ∧ (x.2 ≠ (back l pre.length).2 → ¬ chk l (pre ++ [x])) := by
  have e : chk l (pre ++ [x]) ↔ x.2 = (back l pre.length).2 := by
    unfold chk
    rw [List.length_append, List.length_singleton, upto_succ, List.map_append, List.map_append, h]
    simp
  exact ⟨e.2, fun h1 h2 => h1 (e.1 h2)⟩
theorem walk_after {W W' : World} {T B' : Nat} {v u1 u2 : Value} (hb : Below W.heap.size W W') (h1 : W.cell? ⟨T, 0, none⟩ = some v) (h2 : W.frozen? ⟨T, 0, none⟩ = false) (h3 : W.cell? ⟨B', 0, none⟩ = some u1) (h4 : W.cell? ⟨B', 1, none⟩ = some u2) (o : Obj) :
    (W'.alloc o).cell? ⟨T, 0, none⟩ = some v ∧ (W'.alloc o).frozen? ⟨T, 0, none⟩ = false ∧ (W'.alloc o).cell? ⟨B', 0, none⟩ = some u1 ∧ (W'.alloc o).cell? ⟨B', 1, none⟩ = some u2 ∧ T < W'.heap.size := by
  have hb2 : Below W.heap.size W (W'.alloc o) := hb.alloc hb.size _
  exact ⟨(hb2.cell (p := ⟨T, 0, none⟩) (cell_lt h1)).trans h1, (hb2.frozen (p := ⟨T, 0, none⟩) (cell_lt h1)).trans h2, (hb2.cell (p := ⟨B', 0, none⟩) (cell_lt h3)).trans h3, (hb2.cell (p := ⟨B', 1, none⟩) (cell_lt h3)).trans h4, by have := cell_lt h1; have := hb.size; omega⟩
theorem keepsFrom_below {B : Nat} {W W' : World} (h : Below W.heap.size W W') : KeepsFrom B W W' :=
  ⟨h.size, fun k _ _ hk _ => (h.block k (Array.getElem?_eq_some_iff.1 hk).1).trans hk⟩
theorem walk_keeps {B : Nat} {W W' : World} (h : Below W.heap.size W W') (p : Addr) (u : Value) (o : Obj) : KeepsFrom B W ((W'.setCell p u).alloc o) :=
  ((keepsFrom_below h).trans ((KeepsOthers.setCell _ _ _).from _)).trans ((KeepsOthers.alloc _ _).from _)
theorem walk_keeps' {B : Nat} {W W' : World} (h : Below W.heap.size W W') (p : Addr) (u : Value) (o : Obj) : KeepsFrom B W ((W'.alloc o).setCell p u) :=
  ((keepsFrom_below h).trans ((KeepsOthers.alloc _ _).from _)).trans ((KeepsOthers.setCell _ _ _).from _)
theorem walk_kp {N T : Nat} {W W' : World} (h : Below W.heap.size W W') (hN : N ≤ W.heap.size) (u : Value) (o : Obj) : KpB N T W ((W'.setCell ⟨T, 0, none⟩ u).alloc o) := fun p q hp hne => by
  have h1 := h.size
  rw [((Below.refl _ (W'.setCell ⟨T, 0, none⟩ u)).alloc (Nat.le_refl _) o).cell (p := ⟨p, q, none⟩) (by simp; omega), World.cell?_setCell_other (h := by intro e; apply hne; injection e with e1 _ _; exact e1.symm)]
  exact h.cell (p := ⟨p, q, none⟩) (by show p < _; omega)
theorem walk_below {n₀ T : Nat} {X W W' : World} (hX : Below n₀ X W) (h : Below W.heap.size W W') (hn : n₀ ≤ X.heap.size) (hT : n₀ ≤ T) (u : Value) (o : Obj) : Below n₀ X ((W'.setCell ⟨T, 0, none⟩ u).alloc o) :=
  ((hX.trans (h.mono (Nat.le_trans hn hX.size))).setCell (p := ⟨T, 0, none⟩) hT _).alloc (by have := hX.size; have := h.size; simp; omega) _
theorem cell_alloc' (w : World) (C : Array Value) (T : TypeId) : (w.alloc (.cells C T)).cell? ⟨w.heap.size, 0, none⟩ = C[0]? ∧ (w.alloc (.cells C T)).frozen? ⟨w.heap.size, 0, none⟩ = false :=
  boxN (Below.refl _ _) 0

set_option maxRecDepth 100000 in
set_option maxHeartbeats 2000000 in
theorem law_SignalWalk (k n : Int) (v : Value) (l : List Ch) (w : World) (hg : Glob w) (hs : SlR w v l.length (chs l)) :
    Calls Tryz.prog 5 #[.agg #[.int .i64 k, .int .i64 n, v]] w fun e w' => e = .returned (.bool true) ∧ Below w.heap.size w w' := by
  obtain ⟨a, cap, rfl, hc, hm⟩ := hs.shape
  unfold maxLen at hm
  have HG := Lib.hid hg
  have HS := Lib.hid hs
  clear hg hs
  refine (callsIn_wide (n := 5)).1 ?_
  refine callsIn_of_wp_marks Tryz.func5 rfl trivial ?_ rfl
  refine wpIn_wide.2 ?_
  simp only [Tryz.ntmps5, List.size_toArray, List.length_cons, List.length_nil, Nat.reduceAdd, Nat.reduceSub, Array.replicate_succ, Array.replicate_zero, List.push_toArray, List.append_toArray, List.nil_append, List.cons_append]
  go_wp2_with fail
  refine (law_awake _ (HG.out.below (((Below.refl _ _).alloc (Nat.le_refl _) _).alloc (by simp) _))).mono ?_
  rintro e w1 ⟨rfl, hb⟩
  have HX1 := Lib.hid (Bx.start hb)
  obtain ⟨s0, s1, s2, r0, rf, -⟩ := HX1.out
  clear hb
  go_wp2_with fail
  refine (ref_Few _ l 40 w1 (HS.out.below HX1.out.below)).mono ?_
  rintro e w2 ⟨rfl, rfl⟩
  cases hf : few l 40
  · go_wp2_with fail
    have q0 := World.cell?_setCell_same' w2 ⟨w.heap.size + 1, 0, none⟩ (.bool true) (by rw [r0]; rfl)
    exact ⟨.bool true, by simp [results, Tryz.f5, go_sem, q0], rfl, HX1.out.below.setCell (p := ⟨w.heap.size + 1, 0, none⟩) (Nat.le_succ _) _⟩
  have hl40 : l.length ≤ 40 := by unfold few at hf; simp at hf; omega
  have hfit : Fit l := by
    unfold few fewV at hf
    simp at hf
    exact ⟨by omega, fun c hc => by have := hf.1 _ _ hc; omega⟩
  clear hf
  have HV := Lib.hid (sig_Valid k n _ l w2 (HG.out.below HX1.out.below) (HS.out.below HX1.out.below) hfit)
  have HF := Lib.hid hfit
  clear hfit
  go_wp2_with fail
  refine HV.out.mono ?_
  rintro e w3 ⟨rfl, hb3⟩
  have HX3 := Lib.hid (HX1.out.later hb3)
  clear s0 s1 s2 r0 rf
  obtain ⟨s0, s1, s2, r0, rf, -⟩ := HX3.out
  clear hb3 HV
  cases hv : sv k n l
  · clear hv
    go_wp2_with fail
    have q0 := World.cell?_setCell_same' w3 ⟨w.heap.size + 1, 0, none⟩ (.bool true) (by rw [r0]; rfl)
    exact ⟨.bool true, by simp [results, Tryz.f5, go_sem, q0], rfl, HX3.out.below.setCell (p := ⟨w.heap.size + 1, 0, none⟩) (Nat.le_succ _) _⟩
  have HSV := Lib.hid hv
  clear hv
  have hsz3 := cell_lt r0
  have x0 := cell_alloc s0 (.cells #[.int .i64 (-1)] 3)
  have x1 := cell_alloc s1 (.cells #[.int .i64 (-1)] 3)
  have x2 := cell_alloc s2 (.cells #[.int .i64 (-1)] 3)
  go_wp2_with fail
  have hT0 := cell_alloc' w3 #[.int .i64 (-1)] 3
  clear x0 x1 x2 s0 s1 s2 r0 rf
  go_loopw [30] (fun i wr => ∃ j : Nat, j ≤ l.length ∧ i = .int .i64 j ∧ wr.cell? ⟨w3.heap.size, 0, none⟩ = some (.int .i64 (tmN l j)) ∧ wr.frozen? ⟨w3.heap.size, 0, none⟩ = false ∧ Below w3.heap.size w3 wr)
    (fun i _ => l.length - (intOf i).toNat)
  case atStart => exact ⟨0, Nat.zero_le _, rfl, hT0.1, hT0.2, (Below.refl _ _).alloc (Nat.le_refl _) _⟩
  case round =>
    obtain ⟨j, hj, rfl, tc, tf, hbw⟩ := hrel
    have HB := Lib.hid hbw
    have HX := Lib.hid (HX3.out.later hbw)
    obtain ⟨m0, m1, m2, mr, mf, -⟩ := HX.out
    have hszr := cell_lt tc
    clear hbw hT0
    by_cases hlt : j < l.length
    · have HSR := Lib.hid (HS.out.below HX.out.below)
      obtain ⟨b, o, rfl, d0, d1⟩ := HSR.out.ch hlt
      have hN := (nextR_at HSV.out hj).trans (chR_at l j hlt)
      have htn := tmN_succ l j hlt
      generalize l[j] = c at d0 d1 hN htn
      obtain ⟨t, s⟩ := c
      simp only at d0 d1 hN htn
      have HTN := Lib.hid htn
      have hba : Below wr.heap.size wr (wr.alloc (.cells #[.int .i64 t, .string s] 36)) := (Below.refl _ _).alloc (Nat.le_refl _) _
      have HNX := Lib.hid (sig_Next k n _ l (tmN l j) _ (HG.out.below (ext_trans HX.out.below hba)) (HSR.out.below hba) HF.out)
      rw [hN] at HNX
      generalize tmN l j = tj at tc HNX
      have y0 := cell_alloc m0 (.cells #[.int .i64 t, .string s] 36)
      have y1 := cell_alloc m1 (.cells #[.int .i64 t, .string s] 36)
      have y2 := cell_alloc m2 (.cells #[.int .i64 t, .string s] 36)
      have yt := cell_alloc tc (.cells #[.int .i64 t, .string s] 36)
      have q1 : (0 : Int) ≤ (j : Int) := by omega
      have q2 : (j : Int) < (l.length : Int) := by omega
      have hw : IntKind.i64.wrap ((j : Int) + 1) = (j : Int) + 1 := IntWalk.i64_in _ (by omega)
      clear hN htn hba
      go_wp2_with fail
      refine HNX.out.mono ?_
      rintro e w4 ⟨rfl, hb4⟩
      have z0 := (boxN hb4 0).1
      have z1 := (boxN hb4 1).1
      have hb4' := ext_alloc hb4
      have zt := (hb4'.cell (p := ⟨w3.heap.size, 0, none⟩) hszr).trans tc
      have zf := (hb4'.frozen (p := ⟨w3.heap.size, 0, none⟩) hszr).trans tf
      have HB4 := Lib.hid (HB.out.trans (hb4'.mono HB.out.size))
      have hsz4 := cell_lt z0
      have v0 := cell_alloc z0 (.cells #[.int .i64 t, .string s] 36)
      have v1 := cell_alloc z1 (.cells #[.int .i64 t, .string s] 36)
      have vt := cell_alloc zt (.cells #[.int .i64 t, .string s] 36)
      have vf : (w4.alloc (.cells #[.int .i64 t, .string s] 36)).frozen? ⟨w3.heap.size, 0, none⟩ = false := (((Below.refl _ _).alloc (Nat.le_refl _) _).frozen (p := ⟨w3.heap.size, 0, none⟩) (cell_lt zt)).trans zf
      clear hb4 hb4'
      go_wp2_with fail
      go_roundw
      case rel =>
        exact ⟨j + 1, by omega, by go_num, by rw [HTN.out]; exact World.cell?_setCell_same' _ _ _ (by rw [vt]; rfl), by rw [World.frozen?_setCell]; exact vf,
          (HB4.out.alloc HB4.out.size _).setCell (Nat.le_refl _) _⟩
      case measure => simp [intOf]; omega
    · obtain rfl : j = l.length := by omega
      have HSR := Lib.hid (HS.out.below HX.out.below)
      have hN := (nextR_at HSV.out hj).trans (chR_end l)
      have HNX := Lib.hid (sig_Next k n _ l (tmN l l.length) wr (HG.out.below HX.out.below) HSR.out HF.out)
      rw [hN] at HNX
      generalize tmN l l.length = tj at tc HNX
      clear hN
      go_wp2_with fail
      refine HNX.out.mono ?_
      rintro e w5 ⟨rfl, hb5⟩
      have HX5 := Lib.hid (HX.out.later hb5)
      have zt := (hb5.cell (p := ⟨w3.heap.size, 0, none⟩) hszr).trans tc
      have zf := (hb5.frozen (p := ⟨w3.heap.size, 0, none⟩) hszr).trans tf
      have HB5 := Lib.hid (HB.out.trans (hb5.mono HB.out.size))
      obtain ⟨a0, a1, a2, ar, af, -⟩ := HX5.out
      have hsz5 := cell_lt zt
      have e0 := cell_alloc a0 (.cells #[.int .i64 0, .string ⟨#[]⟩] 36)
      have e1 := cell_alloc a1 (.cells #[.int .i64 0, .string ⟨#[]⟩] 36)
      have e2 := cell_alloc a2 (.cells #[.int .i64 0, .string ⟨#[]⟩] 36)
      have et := cell_alloc zt (.cells #[.int .i64 0, .string ⟨#[]⟩] 36)
      have ef : (w5.alloc (.cells #[.int .i64 0, .string ⟨#[]⟩] 36)).frozen? ⟨w3.heap.size, 0, none⟩ = false := (((Below.refl _ _).alloc (Nat.le_refl _) _).frozen (p := ⟨w3.heap.size, 0, none⟩) (cell_lt zt)).trans zf
      have hs5 : Below w3.heap.size w5 (w5.setCell ⟨w3.heap.size, 0, none⟩ (.int .i64 1099511627777)) := (Below.refl w3.heap.size w5).setCell (p := ⟨w3.heap.size, 0, none⟩) (Nat.le_refl _) _
      have g2 := cell_alloc ((hs5.cell (p := ⟨w.heap.size, 2, none⟩) (by show w.heap.size < _; omega)).trans a2) (.cells #[.int .i64 0, .string ⟨#[]⟩] 36)
      clear hb5 m0 m1 m2 mr mf tc tf hs5
      go_wp2_with fail
      refine (back_in a l.length cap _).mono ?_
      rintro e w6 ⟨rfl, rfl⟩
      go_wp2_with fail
      obtain ⟨W6, hW6⟩ : ∃ W6, ((w5.setCell ⟨w3.heap.size, 0, none⟩ (.int .i64 1099511627777)).alloc (.cells #[.int .i64 0, .string ⟨#[]⟩] 36)).alloc (.cells #[.slice a l.length cap] 22) = W6 := ⟨_, rfl⟩
      have hs5 : Below w3.heap.size w5 (w5.setCell ⟨w3.heap.size, 0, none⟩ (.int .i64 1099511627777)) := (Below.refl w3.heap.size w5).setCell (p := ⟨w3.heap.size, 0, none⟩) (Nat.le_refl _) _
      have hb6 : Below w3.heap.size w3 W6 := by rw [← hW6]; exact ((HB5.out.trans hs5).alloc (HB5.out.trans hs5).size _).alloc (by simp; omega) _
      have ht6 : W6.cell? ⟨w3.heap.size, 0, none⟩ = some (.int .i64 1099511627777) := by rw [← hW6]; exact cell_alloc (cell_alloc (World.cell?_setCell_same' _ _ _ (by rw [zt]; rfl)) _) _
      have hf6 : W6.frozen? ⟨w3.heap.size, 0, none⟩ = false := by
        rw [← hW6]
        exact (((Below.refl _ _).alloc (Nat.le_refl _) _).frozen (p := ⟨w3.heap.size, 0, none⟩) (by simp; omega)).trans ((((Below.refl _ _).alloc (Nat.le_refl _) _).frozen (p := ⟨w3.heap.size, 0, none⟩) (by simp; omega)).trans (by rw [World.frozen?_setCell]; exact zf))
      have hc6 : W6.cell? ⟨w5.heap.size + 1, 0, none⟩ = some (.slice a l.length cap) := by
        rw [← hW6]; have := (cell_alloc' ((w5.setCell ⟨w3.heap.size, 0, none⟩ (.int .i64 1099511627777)).alloc (.cells #[.int .i64 0, .string ⟨#[]⟩] 36)) #[.slice a l.length cap] 22).1; simpa using this
      have hsz6 : W6.heap.size = w5.heap.size + 2 := by rw [← hW6]; simp
      have HX6 := Lib.hid (HX3.out.later hb6)
      have hws := HX6.out.below.size
      have hsz36 := hb6.size
      rw [hW6]
      clear hW6 hs5 zt zf e0 e1 e2 et ef g2 a0 a1 a2 ar af HNX
      refine act_of ?_
      intro A0 hA0
      refine (wpIn_wide (n := 5)).1 ?_
      refine wpIn_rangeFunc_ownH rfl (by decide) (gf := 60) (lb := #[.pointer (some ⟨w5.heap.size + 1, 0, none⟩)]) rfl trivial (enters_of Tryz.func60 (by kernel_rfl) rfl)
        (back_stops Fence.wide 4 trivial rfl (by decide) (w5.heap.size + 1) W6.heap.size w3.heap.size _ l (by omega) W6 (by omega) (by omega) (Nat.le_refl _) hc6 w (by omega) (by omega) (fun p o hp => HX6.out.below.cell (p := ⟨p, o, none⟩) hp) HS.out)
        KpB.trans (KpB.putObj (Nat.le_refl _)) (Below.refl _ _) (fun _ => rfl)
        (fun pre W => (chk l pre ∧ W.cell? ⟨w3.heap.size, 0, none⟩ = some (.int .i64 (tmP l (l.length - pre.length))) ∧ W.frozen? ⟨w3.heap.size, 0, none⟩ = false) ∧ Below w3.heap.size W6 W)
        (fun _ pre _ => ¬ chk l pre)
        (OwnFrom.and (Own.from (fun s A B row hs hg hr => ⟨hs.1, cell_kept hs.2.1 hg hr, (frozen_kept hs.2.1 hg hr).trans hs.2.2⟩) _) (ownFrom_below (by omega) (by omega)))
        (fun _ _ _ _ _ hs _ _ => hs)
        ⟨⟨rfl, by rw [ht6, List.length_nil, Nat.sub_zero, tmP_end], hf6⟩, Below.refl _ _⟩
        (fun x a' W => ∃ B', w3.heap.size < B' ∧ W.cell? ⟨B', 0, none⟩ = some (.int .i64 x.2.1) ∧ W.cell? ⟨B', 1, none⟩ = some (.string x.2.2) ∧
          a' = { tmps := (((#[61, 62] : Array Tmp).zip (encB x)).foldl (fun t (p, v) => t.setIfInBounds p v) A0.tmps).setIfInBounds 11 (.pointer (some ⟨B', 0, none⟩)), defers := [] })
        (fun x a' _ A B row hs hg hr => by obtain ⟨B', h1, h2, h3, h4⟩ := hs; exact ⟨B', h1, cell_kept h2 hg (fun r e => (hr r e).2), cell_kept h3 hg (fun r e => (hr r e).2), h4⟩)
        ?assign ?body ?done ?stop
      case assign =>
        rintro lp pre ⟨ix, t, s⟩ W K ⟨⟨hk, hc1, hf1⟩, hB1⟩ hK
        unfold encB
        gi_wp2
        have hal : Below W.heap.size W (W.alloc (.cells #[.int .i64 t, .string s] 36)) := (Below.refl _ _).alloc (Nat.le_refl _) _
        refine hK _ _ ((KeepsOthers.alloc _ _).from _) (KpB.of_below (hal.mono (by have := hB1.size; omega))) ⟨⟨hk, cell_alloc hc1 _, (hal.frozen (p := ⟨w3.heap.size, 0, none⟩) (cell_lt hc1)).trans hf1⟩, hB1.alloc (by have := hB1.size; omega) _⟩ ⟨W.heap.size, cell_lt hc1, ?_, ?_, ?_⟩
        · exact (cell_alloc' W #[.int .i64 t, .string s] 36).1
        · exact (boxN (Below.refl _ (W.alloc (.cells #[.int .i64 t, .string s] 36))) 1).1
        · rw [← hA0]
          simp [encB]
      case body =>
        rintro lp pre ⟨ix, t, s⟩ a' W hl ⟨r, hr⟩ ⟨⟨hk, hc1, hf1⟩, hB1⟩ ⟨B', hB', v0, v1, rfl⟩ hlt
        simp only at v0 v1
        rw [← hA0]
        unfold encB
        have HX7 := Lib.hid (HX3.out.later (hb6.trans hB1))
        obtain ⟨m0, m1, m2, mr, mf, -⟩ := HX7.out
        have hsW := hB1.size
        obtain ⟨j, hj1⟩ : ∃ j, l.length - pre.length = j + 1 := ⟨l.length - 1 - pre.length, by omega⟩
        have hjl : j < l.length := by omega
        have hN := (prevR_at HSV.out (j := j + 1) (by omega)).trans (chR_pred l j hjl)
        have HP := Lib.hid (sig_Previous k n _ l (tmP l (j + 1)) W (HG.out.below HX7.out.below) (HS.out.below HX7.out.below) HF.out)
        rw [hN] at HP
        rw [hj1] at hc1
        have HTP := Lib.hid (tmP_at l j hjl)
        have HBK := Lib.hid (show (back l pre.length).2 = l[j] by
          unfold back
          rw [show l.length - 1 - pre.length = j by omega, List.getD, List.getElem?_eq_getElem hjl]; rfl)
        have HCK := Lib.hid (chk_snoc l pre (ix, t, s) hk)
        clear hN
        generalize l[j] = c at HP HTP HBK
        obtain ⟨t2, s2⟩ := c
        generalize tmP l (j + 1) = tq at hc1 HP
        have HW := Lib.hid hB1
        have hszT := cell_lt hc1
        have hszB := cell_lt v0
        have HJ := Lib.hid (show l.length - (pre.length + 1) = j by omega)
        clear hB1 hk hj1
        by_cases htt : t2 = t
        · subst htt
          by_cases hss : s2 = s
          · subst hss
            have HC := Lib.hid (HCK.out.1 (by rw [HBK.out]))
            clear HCK HBK
            gi_wp2_with (refine ⟨trivial, ?_⟩; gi_at_call 24; refine (CallsIn.inRound lp (callsIn_wide.2 HP.out)).mono ?_; rintro e w7 ⟨rfl, hb7⟩; have HB7 := Lib.hid hb7; obtain ⟨n0, n1, n2, n3, n4⟩ := walk_after hb7 hc1 hf1 v0 v1 (.cells #[.int .i64 t2, .string s2] 36); clear hb7)
            exact ⟨walk_keeps HB7.out _ _ _, walk_kp HB7.out hsW _ _, ⟨HC.out, by rw [List.length_append, List.length_singleton, HJ.out, HTP.out]; exact cell_alloc (World.cell?_setCell_same' _ _ _ (by rw [(HB7.out.cell (p := ⟨w3.heap.size, 0, none⟩) hszT).trans hc1]; rfl)) _,
              (((Below.refl _ _).alloc (Nat.le_refl _) _).frozen (p := ⟨w3.heap.size, 0, none⟩) (by have := HB7.out.size; simp; omega)).trans (by rw [World.frozen?_setCell]; exact (HB7.out.frozen (p := ⟨w3.heap.size, 0, none⟩) hszT).trans hf1)⟩,
              walk_below HW.out HB7.out hsz36 (Nat.le_refl _) _ _⟩
          · have HC := Lib.hid (HCK.out.2 (by rw [HBK.out]; intro h; injection h with _ h; exact hss h.symm))
            have hsx := ba_ne hss
            clear HCK HBK
            gi_wp2_with (refine ⟨trivial, ?_⟩; gi_at_call 24; refine (CallsIn.inRound lp (callsIn_wide.2 HP.out)).mono ?_; rintro e w7 ⟨rfl, hb7⟩; have HB7 := Lib.hid hb7; obtain ⟨n0, n1, n2, n3, n4⟩ := walk_after hb7 mr mf v0 v1 (.cells #[.int .i64 t2, .string s2] 36); clear hb7)
            exact ⟨walk_keeps HB7.out _ _ _, HC.out⟩
        · have HC := Lib.hid (HCK.out.2 (by rw [HBK.out]; intro h; injection h with h _; exact htt h.symm))
          have htx : (t2 == t) = false := by rw [beq_eq_false_iff_ne]; exact htt
          clear HCK HBK
          gi_wp2_with (refine ⟨trivial, ?_⟩; gi_at_call 24; refine (CallsIn.inRound lp (callsIn_wide.2 HP.out)).mono ?_; rintro e w7 ⟨rfl, hb7⟩; have HB7 := Lib.hid hb7; obtain ⟨n0, n1, n2, n3, n4⟩ := walk_after hb7 mr mf v0 v1 (.cells #[.int .i64 t2, .string s2] 36); clear hb7)
          exact ⟨walk_keeps HB7.out _ _ _, HC.out⟩
      case done =>
        rintro D xs W hD rfl ⟨⟨hk, hc1, hf1⟩, hB1⟩ hK
        have HX7 := Lib.hid (HX3.out.later (hb6.trans hB1))
        obtain ⟨m0, m1, m2, mr, mf, -⟩ := HX7.out
        rw [upto_length, Nat.sub_self] at hc1
        have hN := (prevR_at HSV.out (j := 0) (Nat.zero_le _)).trans (chR_neg l)
        have HP := Lib.hid (sig_Previous k n _ l (tmP l 0) W (HG.out.below HX7.out.below) (HS.out.below HX7.out.below) HF.out)
        rw [hN] at HP
        generalize tmP l 0 = tq at hc1 HP
        have HK := Lib.hid hK
        clear hN hK hk hB1
        go_wp2_with fail
        refine HP.out.mono ?_
        rintro e w8 ⟨rfl, hb8⟩
        have hb8' : Below W.heap.size W (w8.alloc (.cells #[.int .i64 0, .string ⟨#[]⟩] 36)) := hb8.alloc hb8.size _
        have HX8 := Lib.hid (HX7.out.later hb8')
        obtain ⟨z0, z1, z2, zr, zf, -⟩ := HX8.out
        have HK8 := Lib.hid ((hb8'.block D (Array.getElem?_eq_some_iff.1 HK.out).1).trans HK.out)
        clear hb8 hb8' m0 m1 m2 mr mf
        go_wp2_with fail
        have HWR := Lib.hid (winR_all HSV.out)
        have HSM := Lib.hid (show sameC l l = true by simp [sameC])
        generalize w8.alloc (.cells #[.int .i64 0, .string ⟨#[]⟩] 36) = W9 at *
        go_region_held3 (fun w' => w'.cell? ⟨w.heap.size, 0, none⟩ = some (.int .i64 k) ∧ w'.cell? ⟨w.heap.size, 1, none⟩ = some (.int .i64 n) ∧ w'.cell? ⟨w.heap.size, 2, none⟩ = some (.slice a l.length cap))
          (first | exact ⟨p0, p1, p2⟩ | exact ⟨o0, o1, o2⟩ | go_keep)
          (first
            | (go_at_call 26; (with_reducible refine (ref_SameChanges _ _ l l _ ?_ ?_).mono ?_); (exact HS10.out); (exact HS.out.below HX10.out.below); (rw [HSM.out]); rintro e w11 ⟨rfl, hb11⟩; have HX11 := Lib.hid (HX10.out.later hb11); have HK11 := Lib.hid ((hb11.block D (Array.getElem?_eq_some_iff.1 HK10.out).1).trans HK10.out); have p0 := HX11.out.s0; have p1 := HX11.out.s1; have p2 := HX11.out.s2; have pr := HX11.out.r; have pf := HX11.out.rf; clear hb11)
            | (go_at_call 27; (with_reducible refine (sig_Window k n _ l 0 1099511627776 W9.drew ?_ ?_ HF.out (by decide) (by decide)).mono ?_); (exact HG.out.below HX8.out.below.drew); (exact HS.out.below HX8.out.below.drew); (rw [HWR.out]); rintro e w10 ⟨v10, rfl, hs10, hb10⟩; obtain ⟨a10, c10, rfl, -, -⟩ := hs10.shape; have hb10' := below_undrew hb10; have HX10 := Lib.hid (HX8.out.later hb10'); have HK10 := Lib.hid ((hb10'.block D (Array.getElem?_eq_some_iff.1 HK8.out).1).trans HK8.out); have HS10 := Lib.hid hs10; have o0 := HX10.out.s0; have o1 := HX10.out.s1; have o2 := HX10.out.s2; clear hb10 hb10' hs10))
        go_wp2_with fail
        have hK' := (KeepsOthers.setCell w11 ⟨w.heap.size + 1, 0, none⟩ (.bool true)).same D _ HK11.out rfl
        refine ⟨by simp, .inl ⟨_, _, rfl, run_takeDeferred hK', ?_⟩⟩
        have hc5 := cell_kept (World.cell?_setCell_same' w11 ⟨w.heap.size + 1, 0, none⟩ (.bool true) (by rw [pr]; rfl)) (grownBy_putObj' _ D (.deferred none)) (fun r e => by cases e; exact ⟨_, hK', rfl⟩)
        exact ⟨.bool true, by simp [results, Tryz.f5, go_sem, hc5], rfl, (HX11.out.below.setCell (p := ⟨w.heap.size + 1, 0, none⟩) (Nat.le_succ _) _).trans (belowK_b (w := W6) hws _ D _ _ hD hK' rfl rfl)⟩
      case stop =>
        rintro D c pre W hD ⟨k', hk', rfl⟩ h _
        exact (h (by simp [chk, upto_length])).elim
end Go.Proofs.YtlbcfmhpkcpmaaaGreatDoor
