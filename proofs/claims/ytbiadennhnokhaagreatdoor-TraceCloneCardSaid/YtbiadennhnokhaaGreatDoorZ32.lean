import Derived.Test.YtbiadennhnokhaaGreatDoorZ23
import Derived.Test.YtbiadennhnokhaaGreatDoorZ31
import Derived.Test.YtbiadennhnokhaaGreatDoorZ20
import Derived.Test.YtbiadennhnokhaaGreatDoorZ19
/- builder.declarations. -/
namespace Go.Proofs.YtbiadennhnokhaaGreatDoor
open Go.RowKit
set_option linter.unusedSimpArgs false

theorem num_len : ∀ (l : List Vr) (fm : List Int), (numF fm l).2.length ≤ fm.length + l.length
  | [], fm => by simp [numF]
  | v :: l, fm => by
    by_cases h : fm.contains v.sg = true
    · rw [numF_in h]
      have := num_len l fm
      simp; omega
    · rw [numF_new h]
      have := num_len l (fm ++ [v.sg])
      simp at this ⊢; omega
theorem ord_nums {S : List Sc} {V : List Vr} (h : (orderF S V).2.2.2 = 0) : (∀ n ∈ (orderF S V).2.2.1, 0 ≤ n) ∧ (orderF S V).2.2.1.length ≤ V.length := by
  unfold orderF at h ⊢
  by_cases he : checkF S V = 0
  · rw [if_neg (by simp [he])]
    dsimp only
    unfold vrF
    refine ⟨fun n hn => ?_, ?_⟩
    · rcases num_sub _ _ n hn with h1 | ⟨v, hv, rfl⟩
      · cases h1
      · unfold vr2 at hv
        rw [isort_mem] at hv
        obtain ⟨y, hy, rfl⟩ := List.mem_map.1 hv
        have hd : declF S V = true := by
          rw [chk_iff] at he
          exact he.d
        exact (decl_vars hd y hy).2.2
    · have := num_len (vr2 S V) []
      unfold vr2 at this ⊢
      rw [isort_len] at this
      simpa [vr1] using this
  · rw [if_pos he] at h
    exact absurd h he
/-- a signal is put behind the builder's -/
theorem BI.push {w W V : World} {t u : Tr} {p q : TP} (h : BI w t p u q W) {x : Sg} {vx v8 : Value} {n : Nat} (ho : V.ownsRow (w.heap.size + 2) 45 3 v8 n (sgs q.M ++ sgs [(x, vx)])) (hn : n = q.M.length + 1) (hg : W.grownBy V q.vg.ownBlock)
    (hc : (x, vx) ∈ p.M) : BI w t p { u with G := u.G ++ [x] } { q with vg := v8, M := q.M ++ [(x, vx)] } (V.setCell ⟨w.heap.size, 15, none⟩ v8) := by
  have hx : OwnRow V w.heap.size (trC t p ++ trC u q) := h.x.grown hg h.lt (fun e => by have := (own_lo h.g e.symm).1; omega)
  exact
  { x := by
      have := hx.set (j := 15) (by simp [trC]) v8
      exact this
    s := own_box (h.s.kept hg (own_apart h.s h.g (by decide))) _ _
    v := own_box (h.v.kept hg (own_apart h.v h.g (by decide))) _ _
    g := own_box (by rw [sgs_app, List.length_append]; subst hn; exact ho) _ _
    c := fun y hy => by
      rcases List.mem_append.1 hy with hy | hy
      · exact (h.c y hy).imp id (fun h0 => own_box (h0.kept hg (own_apart h0 h.g (by decide))) _ _)
      · obtain rfl := List.mem_singleton.1 hy
        exact Or.inl hc
    r := own_box (h.r.kept hg (own_apart h.r h.g (by decide))) _ _
    m := by rw [List.map_append, h.m]; rfl
    b := (h.b.grown hg h.b.size (fun k e => by have := (own_lo h.g e).1; omega)).setCell (by simp) _
    k := (h.k.grown hg h.lt2 (fun e => by have := (own_lo h.g e.symm).1; omega)).other (a := ⟨w.heap.size, 15, none⟩) (by show w.heap.size ≠ w.heap.size + 1; omega) _
    l := h.l }
set_option maxHeartbeats 3200000 in
set_option maxRecDepth 100000 in
theorem tb_decl (w W : World) (t u : Tr) (p q : TP) (h : BI w t p u q W) (ht : TrM w t p) (hG : u.G = []) (hl : t.S.length ≤ 1000 ∧ t.V.length ≤ 1000) (hn : (∀ s ∈ t.S, s.1.length ≤ 100000) ∧ ∀ x ∈ t.V, x.nm.length ≤ 100000)
    (hsg : ∀ x ∈ t.V, (Lit.int .i64 x.sg).wf = true) :
    Calls Tryz.prog 54 #[.pointer (some ⟨w.heap.size, 0, none⟩)] W fun e W' => StepZ w t p q.vp (declE t) { u with S := (orderF t.S t.V).1, V := (orderF t.S t.V).2.1, G := sig1 t } e W' := by
  have HI := Lib.hid h
  have HT := Lib.hid ht
  have hwz := h.lt
  have hwz2 := h.lt2
  have hbs := h.b.size
  have HOR := Lib.hid (fun (V : World) (hb : Below w.heap.size w V) => hi_Order p.vs p.vv t.S t.V V ((ht.s).below hb) (ht.v.below hb) hl hn hsg)
  have HON := Lib.hid (fun h => ord_nums (S := t.S) (V := t.V) h)
  have HDE := Lib.hid (show declE t = if (orderF t.S t.V).2.2.2 ≠ 0 then (orderF t.S t.V).2.2.2 else if (orderF t.S t.V).2.2.1.any (fun n => decide ((t.G.length : Int) ≤ n)) = true then 1 else if 64 < (orderF t.S t.V).2.2.1.length then 9 else 0 from rfl)
  have HS1 := Lib.hid (show sig1 t = (orderF t.S t.V).2.2.1.map (sgI t.G) from rfl)
  obtain ⟨⟨oS, oV, oN, oE⟩, hO⟩ : ∃ r, r = orderF t.S t.V := ⟨_, rfl⟩
  rw [← hO] at HOR HON HDE HS1 ⊢
  dsimp only at HON HDE HS1 ⊢
  obtain ⟨sa, sc_, es, -, -⟩ := ht.s.shape
  obtain ⟨va, vc_, ev, -, -⟩ := ht.v.shape
  rw [es, ev] at HOR
  have c4 := h.x.cell (j := 4) rfl
  have c5 := h.x.cell (j := 5) rfl
  rw [es] at c4
  rw [ev] at c5
  obtain ⟨ga, gc, eg, -, -⟩ := ht.g.s.shape
  have hGL := ht.len
  have c6 := h.x.cell (j := 6) rfl
  rw [eg, hGL] at c6
  have HEG := Lib.hid eg
  clear h ht hn hsg es ev hO eg
  go_enter Tryz.func54, Tryz.ntmps54
  go_wp2_with fail
  refine wp_region_late (S := fun w' => w'.cell? ⟨w.heap.size, 4, none⟩ = some (.slice sa t.S.length sc_) ∧ w'.cell? ⟨w.heap.size, 5, none⟩ = some (.slice va t.V.length vc_)) (X := fun _ => false) (by kernel_rfl) ?_
  refine wpAnyX_take (i := 0) (v := ?_) rfl (by kernel_rfl) (by kernel_rfl) (by kernel_rfl) (by kernel_rfl) (fun _ _ _ h => h) (Or.inl ⟨by rfl, ?_⟩) (by go_simp) ?_
  rotate_left
  · intro w hSw
    (try dsimp only at hSw)
    go_simp
    all_goals with_reducible rfl
  simp only [Act.put, List.getElem_toArray, List.getElem_cons_succ, List.getElem_cons_zero, List.setIfInBounds_toArray, List.set_cons_zero, List.set_cons_succ]
  refine wpAnyX_take (i := 1) (v := ?_) rfl (by kernel_rfl) (by kernel_rfl) (by kernel_rfl) (by kernel_rfl) (fun _ _ _ h => h) (Or.inl ⟨by rfl, ?_⟩) (by go_simp) ?_
  rotate_left
  · intro w hSw
    (try dsimp only at hSw)
    go_simp
    all_goals with_reducible rfl
  simp only [Act.put, List.getElem_toArray, List.getElem_cons_succ, List.getElem_cons_zero, List.setIfInBounds_toArray, List.set_cons_zero, List.set_cons_succ]
  refine wpAnyX_take (i := 2) (v := ?_) rfl (by kernel_rfl) (by kernel_rfl) (by kernel_rfl) (by kernel_rfl) (fun _ _ _ h => h) (Or.inl ⟨by rfl, ?_⟩) (by go_simp) ?_
  rotate_left
  · intro w hSw
    (try dsimp only at hSw)
    go_simp
    all_goals with_reducible rfl
  simp only [Act.put, List.getElem_toArray, List.getElem_cons_succ, List.getElem_cons_zero, List.setIfInBounds_toArray, List.set_cons_zero, List.set_cons_succ]
  refine wpAnyX_take (i := 3) (v := ?_) rfl (by kernel_rfl) (by kernel_rfl) (by kernel_rfl) (by kernel_rfl) (fun _ _ _ h => h) (Or.inl ⟨by rfl, ?_⟩) (by go_simp) ?_
  rotate_left
  · intro w hSw
    (try dsimp only at hSw)
    go_simp
    all_goals with_reducible rfl
  simp only [Act.put, List.getElem_toArray, List.getElem_cons_succ, List.getElem_cons_zero, List.setIfInBounds_toArray, List.set_cons_zero, List.set_cons_succ]
  refine wpAnyX_take (i := 4) (v := ?_) rfl (by kernel_rfl) (by kernel_rfl) (by kernel_rfl) (by kernel_rfl) (fun _ _ _ h => h) (Or.inl ⟨by rfl, ?_⟩) (by go_simp) ?_
  rotate_left
  · intro w hSw
    (try dsimp only at hSw)
    go_simp
    all_goals with_reducible rfl
  simp only [Act.put, List.getElem_toArray, List.getElem_cons_succ, List.getElem_cons_zero, List.setIfInBounds_toArray, List.set_cons_zero, List.set_cons_succ]
  refine wpAnyX_take (i := 5) (v := ?_) rfl (by kernel_rfl) (by kernel_rfl) (by kernel_rfl) (by kernel_rfl) (fun _ _ _ h => h) (Or.inl ⟨by rfl, ?_⟩) (by go_simp) ?_
  rotate_left
  · intro w hSw
    (try dsimp only at hSw)
    go_simp
    all_goals with_reducible rfl
  simp only [Act.put, List.getElem_toArray, List.getElem_cons_succ, List.getElem_cons_zero, List.setIfInBounds_toArray, List.set_cons_zero, List.set_cons_succ]
  refine wpAnyX_take (i := 6) (v := ?_) rfl (by kernel_rfl) (by kernel_rfl) (by kernel_rfl) (by kernel_rfl) (fun _ _ _ h => h) (Or.inl ⟨by rfl, ?_⟩) (by go_simp) ?_
  rotate_left
  · intro w hSw
    (try dsimp only at hSw)
    go_simp
    all_goals with_reducible rfl
  simp only [Act.put, List.getElem_toArray, List.getElem_cons_succ, List.getElem_cons_zero, List.setIfInBounds_toArray, List.set_cons_zero, List.set_cons_succ]
  refine wpAnyX_take (i := 7) (v := ?_) rfl (by kernel_rfl) (by kernel_rfl) (by kernel_rfl) (by kernel_rfl) (fun _ _ _ h => h) (Or.inl ⟨by rfl, ?_⟩) (by go_simp) ?_
  rotate_left
  · intro w hSw
    (try dsimp only at hSw)
    go_simp
    all_goals with_reducible rfl
  simp only [Act.put, List.getElem_toArray, List.getElem_cons_succ, List.getElem_cons_zero, List.setIfInBounds_toArray, List.set_cons_zero, List.set_cons_succ]
  refine wpAnyX_take (i := 8) (v := ?_) rfl (by kernel_rfl) (by kernel_rfl) (by kernel_rfl) (by kernel_rfl) (fun _ _ _ h => h) (Or.inl ⟨by rfl, ?_⟩) (by go_simp) ?_
  rotate_left
  · intro w hSw
    (try dsimp only at hSw)
    go_simp
    all_goals with_reducible rfl
  simp only [Act.put, List.getElem_toArray, List.getElem_cons_succ, List.getElem_cons_zero, List.setIfInBounds_toArray, List.set_cons_zero, List.set_cons_succ]
  refine wpAnyX_take (i := 9) (v := ?_) rfl (by kernel_rfl) (by kernel_rfl) (by kernel_rfl) (by kernel_rfl) (fun _ _ _ h => h) (Or.inl ⟨by rfl, ?_⟩) (by go_simp) ?_
  rotate_left
  · intro w hSw
    (try dsimp only at hSw)
    go_simp
    all_goals with_reducible rfl
  simp only [Act.put, List.getElem_toArray, List.getElem_cons_succ, List.getElem_cons_zero, List.setIfInBounds_toArray, List.set_cons_zero, List.set_cons_succ]
  refine wpAnyX_one (i := 10) (by kernel_rfl) rfl (fun K hK => ?_)
  go_simp
  refine (HOR.out W.drew (HI.out.b.drew)).mono ?_
  rintro e w1 ⟨v1, v2, v3, rfl, ho1, ho2, ho3, hb1⟩
  dsimp only at ho1 ho2 ho3 ⊢
  have HI1 := Lib.hid (HI.out.drew.next hb1)
  obtain ⟨a1, k1, rfl, -, -⟩ := (SlR.of_own ho1).shape
  obtain ⟨a2, k2, rfl, -, -⟩ := (SlR.of_own ho2).shape
  obtain ⟨a3, k3, rfl, -, -⟩ := (SlR.of_own ho3).shape
  have hsz : w.heap.size + 2 ≤ W.drew.heap.size := hwz2
  have HO1 := Lib.hid (ownsRow_base ho1 hsz)
  have HO2 := Lib.hid (ownsRow_base ho2 hsz)
  have HO3 := Lib.hid (ownsRow_base ho3 hsz)
  have c4 := (hb1.cell (p := ⟨w.heap.size, 4, none⟩) (by show w.heap.size < _; omega)).trans c4
  have c5 := (hb1.cell (p := ⟨w.heap.size, 5, none⟩) (by show w.heap.size < _; omega)).trans c5
  clear ho1 ho2 ho3 hb1
  refine hK.out _ _ (fun _ => ⟨c4, c5⟩) ?_
  clear hK
  try simp only [Act.put, List.getElem_toArray, List.getElem_cons_succ, List.getElem_cons_zero, List.setIfInBounds_toArray, List.set_cons_zero, List.set_cons_succ]
  refine wpAnyX_one (i := 11) (by kernel_rfl) rfl (fun K hK => ?_)
  go_simp
  refine hK.out _ _ (fun _ => ⟨c4, c5⟩) ?_
  clear hK
  try simp only [Act.put, List.getElem_toArray, List.getElem_cons_succ, List.getElem_cons_zero, List.setIfInBounds_toArray, List.set_cons_zero, List.set_cons_succ]
  refine wpAnyX_take (i := 12) (v := ?_) rfl (by kernel_rfl) (by kernel_rfl) (by kernel_rfl) (by kernel_rfl) (fun _ _ _ h => h) (Or.inl ⟨by rfl, ?_⟩) (by go_simp) ?_
  rotate_left
  · intro w hSw
    (try dsimp only at hSw)
    go_simp
    all_goals with_reducible rfl
  simp only [Act.put, List.getElem_toArray, List.getElem_cons_succ, List.getElem_cons_zero, List.setIfInBounds_toArray, List.set_cons_zero, List.set_cons_succ]
  refine wpAnyX_take (i := 13) (v := ?_) rfl (by kernel_rfl) (by kernel_rfl) (by kernel_rfl) (by kernel_rfl) (fun _ _ _ h => h) (Or.inl ⟨by rfl, ?_⟩) (by go_simp) ?_
  rotate_left
  · intro w hSw
    (try dsimp only at hSw)
    go_simp
    all_goals with_reducible rfl
  simp only [Act.put, List.getElem_toArray, List.getElem_cons_succ, List.getElem_cons_zero, List.setIfInBounds_toArray, List.set_cons_zero, List.set_cons_succ]
  refine wpAnyX_take (i := 14) (v := ?_) rfl (by kernel_rfl) (by kernel_rfl) (by kernel_rfl) (by kernel_rfl) (fun _ _ _ h => h) (Or.inl ⟨by rfl, ?_⟩) (by go_simp) ?_
  rotate_left
  · intro w hSw
    (try dsimp only at hSw)
    go_simp
    all_goals with_reducible rfl
  simp only [Act.put, List.getElem_toArray, List.getElem_cons_succ, List.getElem_cons_zero, List.setIfInBounds_toArray, List.set_cons_zero, List.set_cons_succ]
  refine wpAnyX_take (i := 15) (v := ?_) rfl (by kernel_rfl) (by kernel_rfl) (by kernel_rfl) (by kernel_rfl) (fun _ _ _ h => h) (Or.inl ⟨by rfl, ?_⟩) (by go_simp) ?_
  rotate_left
  · intro w hSw
    (try dsimp only at hSw)
    go_simp
    all_goals with_reducible rfl
  simp only [Act.put, List.getElem_toArray, List.getElem_cons_succ, List.getElem_cons_zero, List.setIfInBounds_toArray, List.set_cons_zero, List.set_cons_succ]
  refine wpAnyX_one (i := 16) (by kernel_rfl) rfl (fun K hK => ?_)
  go_simp
  refine hK.out _ _ (fun _ => ⟨c4, c5⟩) ?_
  clear hK
  try simp only [Act.put, List.getElem_toArray, List.getElem_cons_succ, List.getElem_cons_zero, List.setIfInBounds_toArray, List.set_cons_zero, List.set_cons_succ]
  refine wpAnyX_one (i := 17) (by kernel_rfl) rfl (fun K hK => ?_)
  go_simp
  refine hK.out _ _ (fun _ => ⟨c4, c5⟩) ?_
  clear hK
  try simp only [Act.put, List.getElem_toArray, List.getElem_cons_succ, List.getElem_cons_zero, List.setIfInBounds_toArray, List.set_cons_zero, List.set_cons_succ]
  refine wpAnyX_one (i := 18) (by kernel_rfl) rfl (fun K hK => ?_)
  go_simp
  refine hK.out _ _ (fun _ => ⟨c4, c5⟩) ?_
  clear hK
  try simp only [Act.put, List.getElem_toArray, List.getElem_cons_succ, List.getElem_cons_zero, List.setIfInBounds_toArray, List.set_cons_zero, List.set_cons_succ]
  refine wpAnyX_one (i := 19) (by kernel_rfl) rfl (fun K hK => ?_)
  go_simp
  refine hK.out _ _ (fun _ => ⟨c4, c5⟩) ?_
  clear hK
  try simp only [Act.put, List.getElem_toArray, List.getElem_cons_succ, List.getElem_cons_zero, List.setIfInBounds_toArray, List.set_cons_zero, List.set_cons_succ]
  refine ⟨by kernel_rfl, ?_⟩
  clear c4 c5 c6
  by_cases hE : oE = 0
  · subst hE
    obtain ⟨hn0, hnl⟩ := HON.out rfl
    have hN1 : oN.length ≤ 1000 := by omega
    have HN0 := Lib.hid hn0
    have hde := HDE.out
    rw [if_neg (by simp)] at hde
    have HDE2 := Lib.hid hde
    have c6 := HI1.out.x.cell (j := 6) rfl
    rw [HEG.out, hGL] at c6
    have HB1 := Lib.hid (Below.refl w1.heap.size w1)
    clear hde hn0 HDE HON HOR
    go_wp2_with fail
    go_loopw [32] (fun i wr => ∃ k : Nat, k ≤ oN.length ∧ i = .int .i64 k ∧ (oN.take k).any (fun n => decide ((t.G.length : Int) ≤ n)) = false ∧ Below w1.heap.size w1 wr) (fun i _ => oN.length - (intOf i).toNat)
    case atStart => exact ⟨0, Nat.zero_le _, rfl, rfl, HB1.out⟩
    case round =>
      obtain ⟨k, hk, rfl, han, hb⟩ := hrel
      have HAN := Lib.hid han
      have HB := Lib.hid hb
      have HI2 := Lib.hid (HI1.out.next hb)
      have HO32 := Lib.hid (below_own HO3.out hb)
      have HO12 := Lib.hid (below_own HO1.out hb)
      have HO22 := Lib.hid (below_own HO2.out hb)
      clear han hb c6
      by_cases hlt : k < oN.length
      · obtain ⟨b3, o3, cap3, e3, -, -, hat⟩ := (SlR.of_own HO32.out).at (by omega)
        injection e3 with e3 _ e4
        subst e3 e4
        have d0 : wr.cell? ⟨b3, o3 + k, none⟩ = some (.int .i64 oN[k]) := hat k _ (by simp [ints, hlt])
        have HTK := Lib.hid (show (oN.take (k + 1)).any (fun n => decide ((t.G.length : Int) ≤ n)) = ((oN.take k).any (fun n => decide ((t.G.length : Int) ≤ n)) || decide ((t.G.length : Int) ≤ oN[k])) by
          rw [List.take_succ_eq_append_getElem hlt, List.any_append]; simp)
        have HMM := Lib.hid (List.getElem_mem hlt)
        have c6 := HI2.out.x.cell (j := 6) rfl
        rw [HEG.out, hGL] at c6
        clear hat
        generalize oN[k] = x at *
        by_cases hx : (t.G.length : Int) ≤ x
        · have bx : decide ((t.G.length : Int) ≤ x) = true := by simpa using hx
          have hde := HDE2.out
          rw [if_pos (by rw [List.any_eq_true]; exact ⟨x, HMM.out, bx⟩)] at hde
          have HR := Lib.hid hde
          clear hde
          go_wp2_with fail
          go_ret
          exact ⟨ret_int' HR.out.symm, HI2.out.b, fun h => by rw [HR.out] at h; cases h⟩
        · have bx : decide ((t.G.length : Int) ≤ x) = false := by simpa using hx
          have HAN2 := Lib.hid (show (oN.take (k + 1)).any (fun n => decide ((t.G.length : Int) ≤ n)) = false by rw [HTK.out, HAN.out, bx]; rfl)
          go_wp2_with fail
          go_roundw
          case rel => exact ⟨k + 1, hlt, by go_num, HAN2.out, HB.out⟩
          case measure => simp [intOf]; omega
      · obtain rfl : k = oN.length := by omega
        have hde := HDE2.out
        have han := HAN.out
        rw [List.take_length] at han
        rw [if_neg (by rw [han]; simp)] at hde
        have HAN3 := Lib.hid (show ∀ x ∈ oN, x < (t.G.length : Int) from fun x hx => by
          rw [List.any_eq_false] at han
          have := han x hx
          simpa using this)
        by_cases h64 : 64 < oN.length
        · rw [if_pos h64] at hde
          have HR := Lib.hid hde
          have b64 : (64 : Int) < (oN.length : Int) := by omega
          clear hde han
          go_wp2_with fail
          go_ret
          exact ⟨ret_int' HR.out.symm, HI2.out.b, fun h => by rw [HR.out] at h; cases h⟩
        · rw [if_neg h64] at hde
          have HR := Lib.hid hde
          have b64 : ¬ (64 : Int) < (oN.length : Int) := by omega
          clear hde han hlt
          have f13 := HI2.out.x.free (j := 13) (by simp [trC])
          have f14 := HI2.out.x.free (j := 14) (by simp [trC])
          have c13 := HI2.out.x.cell (j := 13) rfl
          have c14 := HI2.out.x.cell (j := 14) rfl
          have hbi := HI2.out
          have hF := hbi.set (j := 13) (by decide) (.slice a1 oS.length k1) (u' := { u with S := oS }) (q' := { q with vs := .slice a1 oS.length k1 }) rfl (own_box HO12.out _ _) (own_box hbi.v _ _) (own_box hbi.g _ _) (fun x hx => (hbi.c x hx).imp id (fun h => own_box h _ _)) (own_box hbi.r _ _) hbi.m
          have hF2 := hF.set (j := 14) (by decide) (.slice a2 oV.length k2) (u' := { u with S := oS, V := oV }) (q' := { q with vs := .slice a1 oS.length k1, vv := .slice a2 oV.length k2 }) rfl (own_box hF.s _ _) (own_box (own_box HO22.out _ _) _ _) (own_box hF.g _ _) (fun x hx => (hF.c x hx).imp id (fun h => own_box h _ _)) (own_box hF.r _ _) hF.m
          have HF := Lib.hid hF2
          have HO33 := Lib.hid (own_box (own_box HO32.out 13 (.slice a1 oS.length k1)) 14 (.slice a2 oV.length k2))
          clear hbi hF hF2
          go_wp2_with fail
          clear c13 c14 f13 f14
          generalize (wr.setCell ⟨w.heap.size, 13, none⟩ (.slice a1 oS.length k1)).setCell ⟨w.heap.size, 14, none⟩ (.slice a2 oV.length k2) = w3 at *
          have HM0 := Lib.hid (show q.M = [] by have := HI1.out.m; rw [hG] at this; exact List.map_eq_nil_iff.1 this)
          obtain ⟨i0, hi, iz0, iz1, iz2⟩ := info_parts (P := Tryz.prog) sg_info
          have HBW0 := Lib.hid (show BI w t p { u with S := oS, V := oV, G := [].map (sgI t.G) } { q with vs := .slice a1 oS.length k1, vv := .slice a2 oV.length k2 } w3 by have := HF.out; rw [hG] at this; exact this)
          go_loopw [60] (fun i wq => ∃ (k : Nat) (q' : TP), k ≤ oN.length ∧ i = .int .i64 k ∧ BI w t p { u with S := oS, V := oV, G := (oN.take k).map (sgI t.G) } q' wq ∧ q'.vp = q.vp ∧ wq.ownsRow (w.heap.size + 2) 3 1 (.slice a3 oN.length k3) oN.length (ints oN)) (fun i _ => oN.length - (intOf i).toNat)
          case atStart => exact ⟨0, _, Nat.zero_le _, rfl, HBW0.out, rfl, HO33.out⟩
          case round =>
            obtain ⟨k, q', hk, rfl, hbi, hvp, hon⟩ := hrel
            have HVP := Lib.hid hvp
            clear hvp
            have HI5 := Lib.hid hbi
            have HN5 := Lib.hid hon
            clear hbi hon
            by_cases hlt : k < oN.length
            · obtain ⟨b3, c3, e3, -, -, -, hat⟩ := own_at HN5.out (by omega)
              injection e3 with e3 _ e4
              subst e3 e4
              have d0 : wr.cell? ⟨b3, k, none⟩ = some (.int .i64 oN[k]) := hat k _ (by simp [ints, hlt])
              have hx1 := HN0.out _ (List.getElem_mem hlt)
              have hx2 := HAN3.out _ (List.getElem_mem hlt)
              have HTK := Lib.hid (show (oN.take (k + 1)).map (sgI t.G) = (oN.take k).map (sgI t.G) ++ [sgI t.G oN[k]] by
                rw [List.take_succ_eq_append_getElem hlt, List.map_append]; rfl)
              generalize oN[k] = x at *
              obtain ⟨m, rfl⟩ : ∃ m : Nat, x = m := ⟨x.toNat, by omega⟩
              have hm : m < p.M.length := by rw [hGL]; omega
              have hsgs := HT.out.g.below HI5.out.b
              rw [HEG.out] at hsgs
              obtain ⟨gb, go_, eg5, s0, s1, s2, s3⟩ := hsgs.at hm
              have hsw := HT.out.g.m _ (List.getElem_mem hm)
              have hmem := List.getElem_mem hm
              have HSI := Lib.hid (show sgI t.G (m : Int) = p.M[m].1 by
                unfold sgI
                rw [← HT.out.m, Int.toNat_natCast]
                simp [List.getD, hm])
              have hgbz : gb < wr.heap.size := cell_lt s0
              subst eg5
              have hgbl : gb < w.heap.size := by
                obtain ⟨b', o', e', t0, -⟩ := (show Sigs w (.slice (some ⟨gb, go_, none⟩) p.M.length gc) p.M by have := HT.out.g; rwa [HEG.out] at this).at hm
                injection e' with e'
                injection e' with e1 _ _
                subst e1
                exact cell_lt t0
              have c15 := HI5.out.x.cell (j := 15) rfl
              have f15 := HI5.out.x.free (j := 15) (by simp [trC])
              have c6 := HI5.out.x.cell (j := 6) rfl
              rw [HEG.out, hGL] at c6
              obtain ⟨ua, uc, eug⟩ := HI5.out.vgk
              rw [eug] at c15
              have HEU := Lib.hid eug
              have hum : q'.M.length ≤ 1000 := by rw [HI5.out.ml]; simp; omega
              generalize p.M[m] = y at *
              obtain ⟨⟨kd, wd, cl⟩, vx⟩ := y
              dsimp only at s0 s1 s2 s3 hsw
              obtain ⟨xa, xc, rfl, -, -⟩ := hsw.shape
              have HSW := Lib.hid hmem
              have hlow := HI5.out.lt
              have hlow2 := HI5.out.lt2
              clear hat hsgs s3 hsw eug hmem
              go_wp2_with fail
              refine wp_region_late (S := fun w' => w'.cell? ⟨w.heap.size, 15, none⟩ = some (.slice ua q'.M.length uc) ∧ w'.cell? ⟨w.heap.size, 6, none⟩ = some (.slice (some ⟨gb, go_, none⟩) t.G.length gc) ∧ w'.cell? ⟨gb, go_ + m * 3, none⟩ = some (.int .i64 kd) ∧ w'.cell? ⟨gb, go_ + m * 3 + 1, none⟩ = some (.int .i64 wd) ∧ w'.cell? ⟨gb, go_ + m * 3 + 2, none⟩ = some (.slice xa cl.length xc)) (X := fun j => decide (16 ≤ j)) (by kernel_rfl) ?_
              have HI5d := Lib.hid HI5.out.drew
              have HN5d := Lib.hid HN5.out.drew
              have c15 := (World.cell?_drewN wr 1 _).trans c15
              have c6 := (World.cell?_drewN wr 1 _).trans c6
              have s0 := (World.cell?_drewN wr 1 _).trans s0
              have s1 := (World.cell?_drewN wr 1 _).trans s1
              have s2 := (World.cell?_drewN wr 1 _).trans s2
              rw [← World.drew_is_drewN] at c15 c6 s0 s1 s2
              have hgbz := (show gb < wr.drew.heap.size from hgbz)
              have hlow := (show w.heap.size < wr.drew.heap.size from hlow)
              have hlow2 := (show w.heap.size + 1 < wr.drew.heap.size from hlow2)
              generalize wr.drew = wz at *
              refine wpAnyX_take (i := 0) (v := ?_) rfl (by kernel_rfl) (by kernel_rfl) (by kernel_rfl) (by kernel_rfl) (fun _ _ _ h => h) (Or.inl ⟨by rfl, ?_⟩) (by go_simp) ?_
              rotate_left
              · intro w hSw
                (try dsimp only at hSw)
                go_simp
                all_goals with_reducible rfl
              simp only [Act.put, List.getElem_toArray, List.getElem_cons_succ, List.getElem_cons_zero, List.setIfInBounds_toArray, List.set_cons_zero, List.set_cons_succ]
              refine wpAnyX_take (i := 1) (v := ?_) rfl (by kernel_rfl) (by kernel_rfl) (by kernel_rfl) (by kernel_rfl) (fun _ _ _ h => h) (Or.inl ⟨by rfl, ?_⟩) (by go_simp) ?_
              rotate_left
              · intro w hSw
                (try dsimp only at hSw)
                go_simp
                all_goals with_reducible rfl
              simp only [Act.put, List.getElem_toArray, List.getElem_cons_succ, List.getElem_cons_zero, List.setIfInBounds_toArray, List.set_cons_zero, List.set_cons_succ]
              refine wpAnyX_take (i := 2) (v := ?_) rfl (by kernel_rfl) (by kernel_rfl) (by kernel_rfl) (by kernel_rfl) (fun _ _ _ h => h) (Or.inl ⟨by rfl, ?_⟩) (by go_simp) ?_
              rotate_left
              · intro w hSw
                (try dsimp only at hSw)
                go_simp
                all_goals with_reducible rfl
              simp only [Act.put, List.getElem_toArray, List.getElem_cons_succ, List.getElem_cons_zero, List.setIfInBounds_toArray, List.set_cons_zero, List.set_cons_succ]
              refine wpAnyX_take (i := 3) (v := ?_) rfl (by kernel_rfl) (by kernel_rfl) (by kernel_rfl) (by kernel_rfl) (fun _ _ _ h => h) (Or.inl ⟨by rfl, ?_⟩) (by go_simp) ?_
              rotate_left
              · intro w hSw
                (try dsimp only at hSw)
                go_simp
                all_goals with_reducible rfl
              simp only [Act.put, List.getElem_toArray, List.getElem_cons_succ, List.getElem_cons_zero, List.setIfInBounds_toArray, List.set_cons_zero, List.set_cons_succ]
              refine wpAnyX_take (i := 4) (v := ?_) rfl (by kernel_rfl) (by kernel_rfl) (by kernel_rfl) (by kernel_rfl) (fun _ _ _ h => h) (Or.inl ⟨by rfl, ?_⟩) (by go_simp) ?_
              rotate_left
              · intro w hSw
                (try dsimp only at hSw)
                go_simp
                all_goals with_reducible rfl
              simp only [Act.put, List.getElem_toArray, List.getElem_cons_succ, List.getElem_cons_zero, List.setIfInBounds_toArray, List.set_cons_zero, List.set_cons_succ]
              refine wpAnyX_take (i := 5) (v := ?_) rfl (by kernel_rfl) (by kernel_rfl) (by kernel_rfl) (by kernel_rfl) (fun _ _ _ h => h) (Or.inl ⟨by rfl, ?_⟩) (by go_simp) ?_
              rotate_left
              · intro w hSw
                (try dsimp only at hSw)
                go_simp
                all_goals with_reducible rfl
              simp only [Act.put, List.getElem_toArray, List.getElem_cons_succ, List.getElem_cons_zero, List.setIfInBounds_toArray, List.set_cons_zero, List.set_cons_succ]
              refine wpAnyX_take (i := 6) (v := ?_) rfl (by kernel_rfl) (by kernel_rfl) (by kernel_rfl) (by kernel_rfl) (fun _ _ _ h => h) (Or.inl ⟨by rfl, ?_⟩) (by go_simp) ?_
              rotate_left
              · intro w hSw
                (try dsimp only at hSw)
                go_simp
                all_goals with_reducible rfl
              simp only [Act.put, List.getElem_toArray, List.getElem_cons_succ, List.getElem_cons_zero, List.setIfInBounds_toArray, List.set_cons_zero, List.set_cons_succ]
              refine wpAnyX_take (i := 7) (v := ?_) rfl (by kernel_rfl) (by kernel_rfl) (by kernel_rfl) (by kernel_rfl) (fun _ _ _ h => h) (Or.inl ⟨by rfl, ?_⟩) (by go_simp) ?_
              rotate_left
              · intro w hSw
                (try dsimp only at hSw)
                go_simp
                all_goals with_reducible rfl
              simp only [Act.put, List.getElem_toArray, List.getElem_cons_succ, List.getElem_cons_zero, List.setIfInBounds_toArray, List.set_cons_zero, List.set_cons_succ]
              refine wpAnyX_take (i := 8) (v := ?_) rfl (by kernel_rfl) (by kernel_rfl) (by kernel_rfl) (by kernel_rfl) (fun _ _ _ h => h) (Or.inl ⟨by rfl, ?_⟩) (by go_simp) ?_
              rotate_left
              · intro w hSw
                (try dsimp only at hSw)
                go_simp
                all_goals with_reducible rfl
              simp only [Act.put, List.getElem_toArray, List.getElem_cons_succ, List.getElem_cons_zero, List.setIfInBounds_toArray, List.set_cons_zero, List.set_cons_succ]
              refine wpAnyX_take (i := 9) (v := ?_) rfl (by kernel_rfl) (by kernel_rfl) (by kernel_rfl) (by kernel_rfl) (fun _ _ _ h => h) (Or.inl ⟨by rfl, ?_⟩) (by go_simp) ?_
              rotate_left
              · intro w hSw
                (try dsimp only at hSw)
                go_simp
                all_goals with_reducible rfl
              simp only [Act.put, List.getElem_toArray, List.getElem_cons_succ, List.getElem_cons_zero, List.setIfInBounds_toArray, List.set_cons_zero, List.set_cons_succ]
              refine wpAnyX_take (i := 10) (v := ?_) rfl (by kernel_rfl) (by kernel_rfl) (by kernel_rfl) (by kernel_rfl) (fun _ _ _ h => h) (Or.inl ⟨by rfl, ?_⟩) (by go_simp) ?_
              rotate_left
              · intro w hSw
                (try dsimp only at hSw)
                go_simp
                all_goals with_reducible rfl
              simp only [Act.put, List.getElem_toArray, List.getElem_cons_succ, List.getElem_cons_zero, List.setIfInBounds_toArray, List.set_cons_zero, List.set_cons_succ]
              refine wpAnyX_take (i := 11) (v := ?_) rfl (by kernel_rfl) (by kernel_rfl) (by kernel_rfl) (by kernel_rfl) (fun _ _ _ h => h) (Or.inl ⟨by rfl, ?_⟩) (by go_simp) ?_
              rotate_left
              · intro w hSw
                (try dsimp only at hSw)
                go_simp
                all_goals with_reducible rfl
              simp only [Act.put, List.getElem_toArray, List.getElem_cons_succ, List.getElem_cons_zero, List.setIfInBounds_toArray, List.set_cons_zero, List.set_cons_succ]
              refine wpAnyX_take (i := 12) (v := ?_) rfl (by kernel_rfl) (by kernel_rfl) (by kernel_rfl) (by kernel_rfl) (fun _ _ _ h => h) (Or.inl ⟨by rfl, ?_⟩) (by go_simp) ?_
              rotate_left
              · intro w hSw
                (try dsimp only at hSw)
                go_simp
                all_goals with_reducible rfl
              simp only [Act.put, List.getElem_toArray, List.getElem_cons_succ, List.getElem_cons_zero, List.setIfInBounds_toArray, List.set_cons_zero, List.set_cons_succ]
              refine wpAnyX_take (i := 13) (v := ?_) rfl (by kernel_rfl) (by kernel_rfl) (by kernel_rfl) (by kernel_rfl) (fun _ _ _ h => h) (Or.inl ⟨by rfl, ?_⟩) (by go_simp) ?_
              rotate_left
              · intro w hSw
                (try dsimp only at hSw)
                go_simp
                all_goals with_reducible rfl
              simp only [Act.put, List.getElem_toArray, List.getElem_cons_succ, List.getElem_cons_zero, List.setIfInBounds_toArray, List.set_cons_zero, List.set_cons_succ]
              refine wpAnyX_one (i := 14) (by kernel_rfl) rfl (fun K hK => ?_)
              go_simp
              have HIA := Lib.hid (HI5d.out.next (show Below wz.heap.size wz (wz.alloc (.cells #[.int .i64 kd, .int .i64 wd, .slice xa cl.length xc] 45)) from (Below.refl _ _).alloc (Nat.le_refl _) _))
              have HNA := Lib.hid (below_own HN5d.out (show Below wz.heap.size wz (wz.alloc (.cells #[.int .i64 kd, .int .i64 wd, .slice xa cl.length xc] 45)) from (Below.refl _ _).alloc (Nat.le_refl _) _))
              have hog := HIA.out.g
              rw [HEU.out] at hog
              have HOG := Lib.hid hog
              clear hog
              refine hK.out _ _ (fun _ => by go_simp) ?_
              clear hK
              try simp only [Act.put, List.getElem_toArray, List.getElem_cons_succ, List.getElem_cons_zero, List.setIfInBounds_toArray, List.set_cons_zero, List.set_cons_succ]
              refine wpAnyX_one (i := 15) (by kernel_rfl) rfl (fun K hK => ?_)
              refine step_append_lies _ (by rfl) _ _ _ (by rfl) (w.heap.size + 2) 45 i0 _ 3 40 Tryz.underlying24 hi iz0 iz1 iz2 rfl (by omega) (.slice ua q'.M.length uc) q'.M.length (sgs q'.M) (by rfl) (by exact HOG.out) ⟨wz.heap.size, 0, none⟩ 1 1 [.int .i64 kd, .int .i64 wd, .slice xa cl.length xc] (by rfl) (by rfl) (World.news_of_block (cs := #[.int .i64 kd, .int .i64 wd, .slice xa cl.length xc]) (t := 45) (fr := (0, 0)) (by exact heap_alloc_new _ _)) (by simp [Value.oneCell']) (by omega) (by unfold maxLen; omega) (by omega) (by simp; omega) (wz.heap.size + 1) (by simp) ?_
              intro gg cap9 w9 ho9 hg9 hat hlt9
              have hnb : ∀ b, b ≤ w.heap.size → some b ≠ (Value.slice ua q'.M.length uc).ownBlock := fun b hb e => by
                have := (own_lo HOG.out e.symm).1
                omega
              have hza : wz.heap.size ≤ (wz.alloc (.cells #[.int .i64 kd, .int .i64 wd, .slice xa cl.length xc] 45)).heap.size := by simp
              have r15 := (hg9.cell_far ⟨w.heap.size, 15, none⟩ (Nat.lt_of_lt_of_le hlow hza) (hnb _ (Nat.le_refl _))).trans (HIA.out.x.cell (j := 15) rfl)
              rw [HEU.out] at r15
              have r6 := (hg9.cell_far ⟨w.heap.size, 6, none⟩ (Nat.lt_of_lt_of_le hlow hza) (hnb _ (Nat.le_refl _))).trans (HIA.out.x.cell (j := 6) rfl)
              rw [HEG.out, hGL] at r6
              have hba : Below wz.heap.size wz (wz.alloc (.cells #[.int .i64 kd, .int .i64 wd, .slice xa cl.length xc] 45)) := (Below.refl _ _).alloc (Nat.le_refl _) _
              have q0 := (hg9.cell_far ⟨gb, go_ + m * 3, none⟩ (Nat.lt_of_lt_of_le hgbz hza) (hnb _ (Nat.le_of_lt hgbl))).trans ((hba.cell (p := ⟨gb, go_ + m * 3, none⟩) hgbz).trans s0)
              have q1 := (hg9.cell_far ⟨gb, go_ + m * 3 + 1, none⟩ (Nat.lt_of_lt_of_le hgbz hza) (hnb _ (Nat.le_of_lt hgbl))).trans ((hba.cell (p := ⟨gb, go_ + m * 3 + 1, none⟩) hgbz).trans s1)
              have q2 := (hg9.cell_far ⟨gb, go_ + m * 3 + 2, none⟩ (Nat.lt_of_lt_of_le hgbz hza) (hnb _ (Nat.le_of_lt hgbl))).trans ((hba.cell (p := ⟨gb, go_ + m * 3 + 2, none⟩) hgbz).trans s2)
              have g15 := (hg9.frozen_far ⟨w.heap.size, 15, none⟩ (Nat.lt_of_lt_of_le hlow hza) (hnb _ (Nat.le_refl _))).trans (HIA.out.x.free (j := 15) (by simp [trC]))
              have HNF := Lib.hid (own_box (HNA.out.kept hg9 (own_apart HNA.out HOG.out (by decide))) 15 (.slice (some ⟨gg, 0, none⟩) (q'.M.length + 1) cap9))
              have HFIN := Lib.hid (HIA.out.push (x := (kd, wd, cl)) (vx := .slice xa cl.length xc) ho9 rfl (by rw [HEU.out]; exact hg9) HSW.out)
              clear ho9 hg9 hat hlt9 hba hza hnb c15 c6 s0 s1 s2
              refine hK.out _ _ (fun _ => ⟨r15, r6, q0, q1, q2⟩) ?_
              clear hK
              try simp only [Act.put, List.getElem_toArray, List.getElem_cons_succ, List.getElem_cons_zero, List.setIfInBounds_toArray, List.set_cons_zero, List.set_cons_succ]
              refine wpAnyX_late (i := 16) (v := ?_) rfl (by kernel_rfl) (by kernel_rfl) (by kernel_rfl) rfl (fun _ _ _ h => h) (Or.inl ⟨by rfl, ?_⟩) ?_
              rotate_left
              · intro w hSw
                go_simp
                all_goals with_reducible rfl
              simp only [Act.put, List.getElem_toArray, List.getElem_cons_succ, List.getElem_cons_zero, List.setIfInBounds_toArray, List.set_cons_zero, List.set_cons_succ]
              refine wpAnyX_late (i := 17) (v := ?_) rfl (by kernel_rfl) (by kernel_rfl) (by kernel_rfl) rfl (fun _ _ _ h => h) (Or.inl ⟨by rfl, ?_⟩) ?_
              rotate_left
              · intro w hSw
                go_simp
                all_goals with_reducible rfl
              simp only [Act.put, List.getElem_toArray, List.getElem_cons_succ, List.getElem_cons_zero, List.setIfInBounds_toArray, List.set_cons_zero, List.set_cons_succ]
              refine wpAnyX_late (i := 18) (v := ?_) rfl (by kernel_rfl) (by kernel_rfl) (by kernel_rfl) rfl (fun _ _ _ h => h) (Or.inl ⟨by rfl, ?_⟩) ?_
              rotate_left
              · intro w hSw
                go_simp
                all_goals with_reducible rfl
              simp only [Act.put, List.getElem_toArray, List.getElem_cons_succ, List.getElem_cons_zero, List.setIfInBounds_toArray, List.set_cons_zero, List.set_cons_succ]
              refine wpAnyX_one (i := 19) (by kernel_rfl) rfl (fun K hK => ?_)
              go_simp
              refine hK.out _ _ (fun h => absurd h (by decide)) ?_
              clear hK
              try simp only [Act.put, List.getElem_toArray, List.getElem_cons_succ, List.getElem_cons_zero, List.setIfInBounds_toArray, List.set_cons_zero, List.set_cons_succ]
              refine ⟨by kernel_rfl, ?_⟩
              clear r15 r6 q0 q1 q2 g15
              go_wp2_with fail
              go_roundw
              case rel => exact ⟨k + 1, { q' with vg := .slice (some ⟨gg, 0, none⟩) (q'.M.length + 1) cap9, M := q'.M ++ [((kd, wd, cl), .slice xa cl.length xc)] }, hlt, by go_num, by rw [HTK.out, HSI.out]; exact HFIN.out, HVP.out, HNF.out⟩
              case measure => simp [intOf]; omega
            · obtain rfl : k = oN.length := by omega
              have hfin := HI5.out
              rw [List.take_length, ← HS1.out] at hfin
              have HFN := Lib.hid hfin
              clear hfin
              go_wp2_with fail
              go_ret
              exact ⟨ret_int' HR.out.symm, HFN.out.b, fun _ => ⟨q', HFN.out, HVP.out⟩⟩
  · have bE : (oE == 0) = false := by simpa using hE
    have hde := HDE.out
    rw [if_pos hE] at hde
    have HR := Lib.hid hde
    clear hde
    go_wp2_with fail
    go_ret
    exact ⟨ret_int' HR.out.symm, HI1.out.b, fun h => absurd (HR.out.symm.trans h) hE⟩
end Go.Proofs.YtbiadennhnokhaaGreatDoor
/- Plain: what trace.Build goes through, stage by stage; bounds. -/
namespace Go.Proofs.YtbiadennhnokhaaGreatDoor
set_option linter.unusedSimpArgs false

theorem fit_nil : Fit [] := ⟨by simp, fun c hc => by cases hc⟩
theorem fit_sub {l m : List Ch} (h : Fit l) (hm : m.Sublist l) : Fit m := ⟨Nat.le_trans hm.length_le h.1, fun c hc => h.2 c (hm.subset hc)⟩
theorem vi_size (k n : Int) : (vi k n).size ≤ 1000 := by
  cases h : vt k n
  · have : vi k n = ⟨#[]⟩ := by simp [vi, h]
    rw [this]; decide
  · exact vv_size (vv_vi h)
theorem at_size (k n : Int) (l : List Ch) (t : Int) : (atR k n l t).1.size ≤ 1000 := by
  unfold atR
  split
  · show (0 : Nat) ≤ 1000; omega
  split
  · show (0 : Nat) ≤ 1000; omega
  · rename_i h _
    have h2 : sv k n l = true := by simpa using h
    dsimp only
    rw [valAt_eq h2]
    exact vv_size (val_vv h2 t)
theorem offL_len (x : ByteArray) (at_ : Int → ByteArray) (en : Int) : ∀ (P : List Gp) (cs : List Ch), (offL x at_ en P cs).length ≤ cs.length + 2 * P.length
  | [], cs => by simp [offL]
  | g :: P, cs => by
    rw [offL_cons]
    have h := offL_len x at_ en P ((cs.dropWhile fun c => decide (c.1 < g.1)).dropWhile fun c => decide (c.1 ≤ gapTo en g))
    have h1 := (List.dropWhile_sublist (l := cs.dropWhile fun c => decide (c.1 < g.1)) (fun c => decide (c.1 ≤ gapTo en g))).length_le
    have h2 : (cs.takeWhile fun c => decide (c.1 < g.1)).length + (cs.dropWhile fun c => decide (c.1 < g.1)).length = cs.length := by
      rw [← List.length_append, List.takeWhile_append_dropWhile]
    have h3 : (if gapTo en g ≤ 1099511627776 then [(gapTo en g, at_ (gapTo en g))] else []).length ≤ 1 := by split <;> simp
    simp only [List.length_append, List.length_cons]
    omega
theorem offL_fit (k n : Int) (l : List Ch) (en : Int) (hen : en ≤ 1099511627776) (P : List Gp) (hP : P.length ≤ 1000) (hl : Fit l) (hl2 : l.length ≤ 100000) : Fit (offL (vi k n) (fun t => (atR k n l t).1) en P l) := by
  refine ⟨by have := offL_len (vi k n) (fun t => (atR k n l t).1) en P l; omega, fun c hc => ?_⟩
  rcases offL_mem _ _ _ hen _ _ _ hc with h | ⟨g, -, rfl⟩ | ⟨g, -, rfl, -⟩
  · exact hl.2 c h
  · have := vi_size k n
    dsimp only; omega
  · have := at_size k n l (gapTo en g)
    dsimp only; omega
theorem addGap_len (acc : List Gp) (g : Gp) : (addGap acc g).length ≤ acc.length + 1 := by
  rcases snoc_or acc with rfl | ⟨A, h, rfl⟩
  · rw [addGap_nil]; simp
  · rw [addGap_snoc]; split <;> simp
theorem gapsGo_len : ∀ (l : List Gp) (b : Int) (acc : List Gp) (en : Int) (P : List Gp) (en' : Int), gapsGo b acc en l = some (P, en') → P.length ≤ acc.length + l.length
  | [], b, acc, en, P, en', h => by
    injection h with h
    injection h with h1 h2
    subst h1
    simp
  | g :: t, b, acc, en, P, en', h => by
    rw [gapsGo_cons] at h
    split at h
    · cases h
    · have h1 := gapsGo_len t _ _ _ _ _ h
      have h2 := addGap_len acc g
      simp; omega
/-- what Build's argument is bounded by -/
structure FB (t : Tr) : Prop where
  tx : t.dt.length ≤ 100000 ∧ t.vn.length ≤ 100000 ∧ t.cm.length ≤ 100000
  l : t.S.length ≤ 1000 ∧ t.V.length ≤ 1000
  n : (∀ s ∈ t.S, s.1.length ≤ 100000) ∧ ∀ x ∈ t.V, x.nm.length ≤ 100000
  g : ∀ s ∈ t.G, Fit s.2.2 ∧ s.2.2.length ≤ 100000
  p : t.P.length ≤ 1000
theorem sig1_fit {t : Tr} (h : FB t) : ∀ s ∈ sig1 t, Fit s.2.2 ∧ s.2.2.length ≤ 100000 := by
  intro s hs
  obtain ⟨n, -, rfl⟩ := List.mem_map.1 hs
  unfold sgI
  by_cases hn : n.toNat < t.G.length
  · unfold List.getD
    rw [List.getElem?_eq_getElem hn]
    exact h.g _ (List.getElem_mem hn)
  · unfold List.getD
    rw [List.getElem?_eq_none (by omega)]
    exact ⟨fit_nil, by simp⟩
theorem decl_fit {t : Tr} (hd : declE t = 0) : (∀ v ∈ (orderF t.S t.V).2.1, 0 ≤ v.sg ∧ v.sg < (sig1 t).length) ∧ (sig1 t).length ≤ 64 ∧ (orderF t.S t.V).2.1.length = t.V.length := by
  obtain ⟨-, hO, -, h64⟩ := declE_ok hd
  have hs : (sig1 t).length = (vrF t.S t.V).2.length := by unfold sig1; rw [List.length_map, hO]
  rw [hs, hO]
  refine ⟨fun v hv => ?_, h64, ?_⟩
  · obtain ⟨x, -, -, h0, hx⟩ := num_from _ _ v hv
    have := (List.getElem?_eq_some_iff.1 hx).1
    have h2 : v.sg.toNat < (vrF t.S t.V).2.length := this
    exact ⟨h0, by omega⟩
  · have := congrArg List.length (num_keep (fun _ : Vr => (0 : Int)) (fun _ _ => rfl) (vr2 t.S t.V) [])
    have h3 : (vrF t.S t.V).1.length = (vr2 t.S t.V).length := by
      unfold vrF
      simpa using this
    show (vrF t.S t.V).1.length = _
    rw [h3]
    unfold vr2
    rw [isort_len]
    simp [vr1]
theorem norm_fit {t : Tr} (h : FB t) (hn : normE (sig1 t) = 0) : ∀ s ∈ normL (sig1 t), Fit s.2.2 ∧ s.2.2.length ≤ 4096 ∧ sv s.1 s.2.1 s.2.2 = true := by
  intro s hs
  obtain ⟨x, hx, rfl⟩ := List.mem_map.1 hs
  have h0 : ∀ (G : List Sg), normE G = 0 → ∀ y ∈ G, (normalizeR y.1 y.2.1 y.2.2).2 = 0 := by
    intro G
    induction G with
    | nil => intro _ y hy; cases hy
    | cons z G ih =>
      intro hG y hy
      unfold normE firstE at hG
      split at hG
      · rename_i hz; exact absurd hG hz
      · rename_i hz
        rcases List.mem_cons.1 hy with rfl | hy
        · simpa using hz
        · exact ih hG y hy
  have h1 := h0 _ hn x hx
  obtain ⟨e, -, -, -, h4⟩ := nz_ok h1
  rw [e]
  exact ⟨fit_sub (sig1_fit h x hx).1 (normGo_sub _ _ _), h4, nz_sv h1⟩
/-- the state ahead of stage k -/
def stg (t : Tr) : Nat → Tr
  | 0 => tr0
  | 1 => { tr0 with sc := t.sc, dt := t.dt, vn := t.vn, cm := t.cm }
  | 2 => { tr0 with sc := t.sc, dt := t.dt, vn := t.vn, cm := t.cm, S := (orderF t.S t.V).1, V := (orderF t.S t.V).2.1, G := sig1 t }
  | 3 => { tr0 with sc := t.sc, dt := t.dt, vn := t.vn, cm := t.cm, S := (orderF t.S t.V).1, V := (orderF t.S t.V).2.1, G := sig1 t }
  | 4 => { tr0 with sc := t.sc, dt := t.dt, vn := t.vn, cm := t.cm, S := (orderF t.S t.V).1, V := (orderF t.S t.V).2.1, G := normL (sig1 t) }
  | 5 => match timesF t (normL (sig1 t)) with
    | none => tr0
    | some (P, en) => ⟨t.sc, t.dt, t.vn, t.cm, (orderF t.S t.V).1, (orderF t.S t.V).2.1, normL (sig1 t), P, en⟩
  | _ => (buildF t).1
/-- what stage k says -/
def cod (t : Tr) : Nat → Int
  | 0 => textsF t
  | 1 => declE t
  | 2 => firstE (fitE (sig1 t)) (orderF t.S t.V).2.1
  | 3 => normE (sig1 t)
  | 4 => match timesF t (normL (sig1 t)) with
    | none => 2
    | some _ => 0
  | _ => match timesF t (normL (sig1 t)) with
    | none => 0
    | some r => clearF r.1 r.2 (normL (sig1 t))
theorem cod4 (t : Tr) : cod t 4 = match timesF t (normL (sig1 t)) with
    | none => 2
    | some _ => 0 := rfl
theorem cod5 (t : Tr) : cod t 5 = match timesF t (normL (sig1 t)) with
    | none => 0
    | some r => clearF r.1 r.2 (normL (sig1 t)) := rfl
theorem build_cod {t : Tr} {k : Nat} (hk : k < 6) (h0 : ∀ j < k, cod t j = 0) (h : cod t k ≠ 0) : (buildF t).2 = cod t k := by
  unfold buildF
  match k, hk with
  | 0, _ => rw [if_pos (show textsF t ≠ 0 from h)]; rfl
  | 1, _ =>
    have a0 : textsF t = 0 := h0 0 (by omega)
    rw [if_neg (by simp [a0]), if_pos (show declE t ≠ 0 from h)]; rfl
  | 2, _ =>
    have a0 : textsF t = 0 := h0 0 (by omega)
    have a1 : declE t = 0 := h0 1 (by omega)
    rw [if_neg (by simp [a0]), if_neg (by simp [a1]), if_pos (show firstE (fitE (sig1 t)) (orderF t.S t.V).2.1 ≠ 0 from h)]; rfl
  | 3, _ =>
    have a0 : textsF t = 0 := h0 0 (by omega)
    have a1 : declE t = 0 := h0 1 (by omega)
    have a2 : firstE (fitE (sig1 t)) (orderF t.S t.V).2.1 = 0 := h0 2 (by omega)
    rw [if_neg (by simp [a0]), if_neg (by simp [a1]), if_neg (by simp [a2]), if_pos (show normE (sig1 t) ≠ 0 from h)]; rfl
  | 4, _ =>
    have a0 : textsF t = 0 := h0 0 (by omega)
    have a1 : declE t = 0 := h0 1 (by omega)
    have a2 : firstE (fitE (sig1 t)) (orderF t.S t.V).2.1 = 0 := h0 2 (by omega)
    have a3 : normE (sig1 t) = 0 := h0 3 (by omega)
    rw [if_neg (by simp [a0]), if_neg (by simp [a1]), if_neg (by simp [a2]), if_neg (by simp [a3])]
    rw [cod4] at h ⊢
    cases e : timesF t (normL (sig1 t)) with
    | none => rfl
    | some r => rw [e] at h; exact absurd rfl h
  | 5, _ =>
    have a0 : textsF t = 0 := h0 0 (by omega)
    have a1 : declE t = 0 := h0 1 (by omega)
    have a2 : firstE (fitE (sig1 t)) (orderF t.S t.V).2.1 = 0 := h0 2 (by omega)
    have a3 : normE (sig1 t) = 0 := h0 3 (by omega)
    rw [if_neg (by simp [a0]), if_neg (by simp [a1]), if_neg (by simp [a2]), if_neg (by simp [a3])]
    have a4 := h0 4 (by omega)
    rw [cod4] at a4
    rw [cod5] at h ⊢
    cases e : timesF t (normL (sig1 t)) with
    | none => rw [e] at a4; exact absurd a4 (by decide)
    | some r =>
      rw [e] at h
      obtain ⟨P, en⟩ := r
      dsimp only at h ⊢
      rw [if_pos h]
theorem build_ok {t : Tr} (h0 : ∀ j < 6, cod t j = 0) : (buildF t).2 = 0 ∧ ∃ P en, timesF t (normL (sig1 t)) = some (P, en) ∧ (buildF t).1 = ⟨t.sc, t.dt, t.vn, t.cm, (orderF t.S t.V).1, (orderF t.S t.V).2.1, clrL P en (normL (sig1 t)), P, en⟩ := by
  have a0 : textsF t = 0 := h0 0 (by omega)
  have a1 : declE t = 0 := h0 1 (by omega)
  have a2 : firstE (fitE (sig1 t)) (orderF t.S t.V).2.1 = 0 := h0 2 (by omega)
  have a3 : normE (sig1 t) = 0 := h0 3 (by omega)
  have a4 := h0 4 (by omega)
  have a5 := h0 5 (by omega)
  rw [cod4] at a4
  rw [cod5] at a5
  unfold buildF
  rw [if_neg (by simp [a0]), if_neg (by simp [a1]), if_neg (by simp [a2]), if_neg (by simp [a3])]
  cases e : timesF t (normL (sig1 t)) with
  | none => rw [e] at a4; exact absurd a4 (by decide)
  | some r =>
    rw [e] at a5
    obtain ⟨P, en⟩ := r
    dsimp only at a5 ⊢
    rw [if_neg (by simp [a5])]
    exact ⟨rfl, P, en, rfl, rfl⟩
/-- what times gives -/
theorem times_fit {t : Tr} (h : FB t) (hn : normE (sig1 t) = 0) {P : List Gp} {en : Int} (e : timesF t (normL (sig1 t)) = some (P, en)) : P.length ≤ 1000 ∧ (∀ g ∈ P, g.2 ≤ 1099511627777) ∧ en ≤ 1099511627776 := by
  unfold timesF at e
  split at e
  · cases e
  · rename_i hen
    cases hg : gapsGo 0 [] t.en t.P with
    | none => rw [hg] at e; cases e
    | some r =>
      rw [hg] at e
      obtain ⟨P2, en2⟩ := r
      injection e with e
      injection e with e1 e2
      subst e1
      have h1 := gapsGo_len _ _ _ _ _ _ hg
      obtain ⟨⟨c, hc⟩, -, -, h4, -⟩ := gapsGo_ok _ _ _ _ _ _ hg ⟨trivial, (fun g hg => by cases hg), (fun g hg => by cases hg)⟩ (fun x hx => by cases hx)
      refine ⟨by have := h.p; simp at h1; show P2.length ≤ 1000; omega, hc.most, ?_⟩
      have hl : ∀ (G : List Sg) (e0 : Int), e0 ≤ 1099511627776 → (∀ s ∈ G, ∀ c ∈ s.2.2, c.1 ≤ 1099511627776) → lastT G e0 ≤ 1099511627776 := by
        intro G
        induction G with
        | nil => intro e0 h0 _; exact h0
        | cons s G ih =>
          intro e0 h0 hG
          unfold lastT
          rw [List.foldl_cons]
          refine ih _ ?_ (fun s hs => hG s (List.mem_cons_of_mem _ hs))
          cases hl : s.2.2.getLast? with
          | none => exact h0
          | some c =>
            have := hG s (List.mem_cons_self ..) c (List.mem_of_getLast? hl)
            exact Int.max_le.2 ⟨h0, this⟩
      rw [← e2]
      refine hl _ _ (by omega) (fun s hs c hc => ?_)
      have h5 := (norm_fit h hn s hs).2.2
      exact (sv_mem h5 c hc).2.1
end Go.Proofs.YtbiadennhnokhaaGreatDoor
