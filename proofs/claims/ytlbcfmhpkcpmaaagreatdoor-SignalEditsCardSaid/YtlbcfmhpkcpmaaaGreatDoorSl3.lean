import Derived.Test.YtlbcfmhpkcpmaaaGreatDoorSig9
import Derived.Lib.AppendZeros
import Derived.Laws.AppendOwnNone
namespace Go.Proofs.YtlbcfmhpkcpmaaaGreatDoor
open Go.RowKit

/-- append of a slice, nil or not, onto what is owned -/
theorem wpList_append_sl {P : Program} (w : World) {ops : Array Oper} {rest : List Oper} {o : Oper} {a : Act} {Q : Exit → Act → World → Prop} (hgd : o.guard = none) (s x : Operand) (t : TypeId)
    (ho : o.op = .call { callee := .builtin .append, args := #[s, x], argTypes := #[t, t] })
    (base : Nat) (e : TypeId) (i : TypeInfo) (z : Value) (size bytes : Nat) (ht : P.underlying t = some (.slice e)) (hi : P.info? e = some i) (hz : i.zero = some z)
    (hsize : i.size = size) (hby : i.bytes = bytes) (hzs : z.cells.size = size) (hsz : 0 < size)
    (v : Value) (n : Nat) (xs : List Value) (hs : a.eval s = v) (hown : w.ownsRow base e size v n xs)
    (ad : Option Addr) (m c : Nat) (news : List Value) (hx : a.eval x = .slice ad m c) (hsl : SlR w (.slice ad m c) m news) (hl : news.length = m * size) (h1 : ∀ u ∈ news, u.oneCell' = true)
    (h63 : n + m ≤ maxLen) (hbytes : (n + m) * bytes ≤ 140737488355328) (hbase : base ≤ w.heap.size)
    (h : ∀ v' w', w'.ownsRow base e size v' (n + m) (xs ++ news) → w.grownBy w' v.ownBlock → wpList P ops Q rest (a.put o.dst v') w') : wpList P ops Q (o :: rest) a w := by
  cases ad with
  | none =>
    obtain ⟨a', cap', hv, hc1, hc2, hc3, -⟩ := hsl
    injection hv with e1 _ e3
    have h0 := hc3 e1.symm
    have hm : m = 0 := by omega
    have hc : c = 0 := by omega
    subst hm hc
    have hn : news = [] := List.length_eq_zero_iff.1 (by omega)
    subst hn
    refine wpList_append_own_none hgd s x t ho base e i size ht hi v n xs hs hown hx (h v w ?_ (World.grownBy.refl _ _))
    simpa using hown
  | some ad =>
    exact wpList_append_own w hgd s x t ho base e i z size bytes ht hi hz hsize hby hzs hsz v n xs hs hown ad m c news hx hl
      (hsl.news (fun h0 => by subst h0; exact List.length_eq_zero_iff.1 (by omega))) h1 h63 hbytes hbase (fun v' w' h2 h3 _ => h v' w' h2 h3)

theorem wp_append_sl {P : Program} (w : World) {o : Oper} {a : Act} {K : Act → World → Prop} {Q : Exit → Act → World → Prop} (s x : Operand) (t : TypeId)
    (ho : o.op = .call { callee := .builtin .append, args := #[s, x], argTypes := #[t, t] })
    (base : Nat) (e : TypeId) (i : TypeInfo) (z : Value) (size bytes : Nat) (ht : P.underlying t = some (.slice e)) (hi : P.info? e = some i) (hz : i.zero = some z)
    (hsize : i.size = size) (hby : i.bytes = bytes) (hzs : z.cells.size = size) (hsz : 0 < size)
    (v : Value) (n : Nat) (xs : List Value) (hs : a.eval s = v) (hown : w.ownsRow base e size v n xs)
    (ad : Option Addr) (m c : Nat) (news : List Value) (hx : a.eval x = .slice ad m c) (hsl : SlR w (.slice ad m c) m news) (hl : news.length = m * size) (h1 : ∀ u ∈ news, u.oneCell' = true)
    (h63 : n + m ≤ maxLen) (hbytes : (n + m) * bytes ≤ 140737488355328) (hbase : base ≤ w.heap.size)
    (h : ∀ a' c' w', w'.ownsRow base e size (.slice a' (n + m) c') (n + m) (xs ++ news) → w.grownBy w' v.ownBlock → K (a.put o.dst (.slice a' (n + m) c')) w') : o.wp P a w K Q := by
  have h' : ∀ v' w', w'.ownsRow base e size v' (n + m) (xs ++ news) → w.grownBy w' v.ownBlock → K (a.put o.dst v') w' := fun v' w' h2 h3 => by
    obtain ⟨a', c', rfl, -, -⟩ := (SlR.of_own h2).shape
    exact h a' c' w' h2 h3
  cases ad with
  | none =>
    obtain ⟨a', cap', hv, hc1, hc2, hc3, -⟩ := hsl
    injection hv with e1 _ e3
    have h0 := hc3 e1.symm
    have hm : m = 0 := by omega
    have hc : c = 0 := by omega
    subst hm hc
    have hn : news = [] := List.length_eq_zero_iff.1 (by omega)
    subst hn
    have hrun := run_append_owned_none (P := P) (w := w) base t o.type e i size ht hi v n xs hown
    unfold Oper.wp
    simp [execOp, ho, resolve, invoke, builtin, hs, hx, hrun, Result.andThen]
    exact h' v w (by simpa using hown) (World.grownBy.refl _ _)
  | some ad =>
    exact wp_append_own w s x t ho base e i z size bytes ht hi hz hsize hby hzs hsz v n xs hs hown ad m c news hx hl
      (hsl.news (fun h0 => by subst h0; exact List.length_eq_zero_iff.1 (by omega))) h1 h63 hbytes hbase (fun v' w' h2 h3 _ => h' v' w' h2 h3)
theorem step_append_sl {P : Program} (w : World) {ops : Array Oper} {o : Oper} {a : Act} {K : Act → World → Prop} {Q : Exit → Act → World → Prop} {E : Prop} (hgd : o.guard = none) (s x : Operand) (t : TypeId)
    (ho : o.op = .call { callee := .builtin .append, args := #[s, x], argTypes := #[t, t] })
    (base : Nat) (e : TypeId) (i : TypeInfo) (z : Value) (size bytes : Nat) (ht : P.underlying t = some (.slice e)) (hi : P.info? e = some i) (hz : i.zero = some z)
    (hsize : i.size = size) (hby : i.bytes = bytes) (hzs : z.cells.size = size) (hsz : 0 < size)
    (v : Value) (n : Nat) (xs : List Value) (hs : a.eval s = v) (hown : w.ownsRow base e size v n xs)
    (ad : Option Addr) (m c : Nat) (news : List Value) (hx : a.eval x = .slice ad m c) (hsl : SlR w (.slice ad m c) m news) (hl : news.length = m * size) (h1 : ∀ u ∈ news, u.oneCell' = true)
    (h63 : n + m ≤ maxLen) (hbytes : (n + m) * bytes ≤ 140737488355328) (hbase : base ≤ w.heap.size)
    (h : ∀ a' c' w', w'.ownsRow base e size (.slice a' (n + m) c') (n + m) (xs ++ news) → w.grownBy w' v.ownBlock → K (a.put o.dst (.slice a' (n + m) c')) w') :
    if Region.wanted o (yielded ops a.tmps) = true then Oper.wp P o a w K Q else E := by
  have hw : Region.wanted o (yielded ops a.tmps) = true := by simp [Region.wanted, hgd]
  rw [if_pos hw]
  exact wp_append_sl w s x t ho base e i z size bytes ht hi hz hsize hby hzs hsz v n xs hs hown ad m c news hx hsl hl h1 h63 hbytes hbase h

set_option maxHeartbeats 400000 in
set_option maxRecDepth 100000 in
theorem grow_ch (n : Nat) (w : World) (hn : n ≤ 1000000) :
    Calls Tryz.prog 82 #[.slice none 0 0, .int .i64 n] w fun e w' => ∃ v', e = .returned v' ∧ w'.ownsRow w.heap.size 36 2 v' 0 [] ∧ Below w.heap.size w w' := by
  rcases Nat.eq_zero_or_pos n with rfl | hpos
  · go_enter Tryz.func82, Tryz.ntmps82
    go_wp2_with fail
    go_ret
    exact ⟨_, rfl, World.ownsRow_nil _ _ _ _, Below.refl _ _⟩
  · obtain ⟨i0, hi, iz0, iz1, iz2⟩ := info_parts (P := Tryz.prog) change_info
    have hpos' : 0 < n := hpos
    have hr := Lib.run_append_nil_zeros (P := Tryz.prog) w 22 3 22 36 i0 _ .i64 .i64 Tryz.underlying22 Tryz.underlying3 hi iz0 n hpos' (by rw [iz1]; omega) (by omega) (by rw [iz2]; omega)
    have hge := grownCap_ge w n 0 36
    have hle := grownCap_le_maxLen w n 0 36 (by unfold maxLen; omega)
    generalize hcg : grownCap w n 0 36 = cg at *
    have hC : (Builtin.zeroCells (Value.agg #[.int .i64 0, .string ⟨#[]⟩]).cells n ++ Builtin.zeroCells (Value.agg #[.int .i64 0, .string ⟨#[]⟩]).cells (cg - n)).size = cg * 2 := by
      rw [Array.size_append, size_zeroCells, size_zeroCells]
      show n * 2 + (cg - n) * 2 = cg * 2
      omega
    generalize Builtin.zeroCells (Value.agg #[.int .i64 0, .string ⟨#[]⟩]).cells n ++ Builtin.zeroCells (Value.agg #[.int .i64 0, .string ⟨#[]⟩]).cells (cg - n) = C at *
    have hown : (w.drew.alloc (.cells C 36)).ownsRow w.heap.size 36 2 (.slice (some ⟨w.heap.size, 0, none⟩) 0 cg) 0 [] := World.ownsRow_made w.drew C cg (Nat.le_refl _) hle hC
    have HOWN := Lib.hid hown
    have HR := Lib.hid hr
    clear hown hr hC hcg
    unfold maxLen at hle
    go_enter Tryz.func82, Tryz.ntmps82
    go_wp2_with (at_builtin; refine Lib.wpList_append_run _ rfl _ _ _ _ rfl _ _ rfl rfl _ _ HR.out ?_)
    go_ret
    exact ⟨_, rfl, HOWN.out, (Below.refl _ _).drew.alloc (Nat.le_refl _) _⟩

/-- one more slice of changes behind what is owned -/
theorem chs_two (xs ys : List Ch) : chs xs ++ chs ys = chs (xs ++ ys) := (chs_append xs ys).symm

set_option maxHeartbeats 1600000 in
set_option maxRecDepth 100000 in
/-- Concat of two -/
theorem concat_ch2 (r : Nat) (v1 v2 : Value) (l1 l2 : List Ch) (w : World)
    (hr0 : w.cell? ⟨r, 0, none⟩ = some v1) (hr1 : w.cell? ⟨r, 1, none⟩ = some v2)
    (h1 : SlR w v1 l1.length (chs l1)) (h2 : SlR w v2 l2.length (chs l2)) (hl1 : l1.length ≤ 100000) (hl2 : l2.length ≤ 100000) :
    Calls Tryz.prog 61 #[.slice (some ⟨r, 0, none⟩) 2 2] w fun e w' => ∃ v', e = .returned v' ∧ w'.ownsRow w.heap.size 36 2 v' (l1 ++ l2).length (chs (l1 ++ l2)) ∧ Below w.heap.size w w' := by
  obtain ⟨a1, c1, rfl, hc1, hm1⟩ := h1.shape
  obtain ⟨a2, c2, rfl, hc2, hm2⟩ := h2.shape
  have H1 := Lib.hid h1
  have H2 := Lib.hid h2
  clear h1 h2
  go_enter Tryz.func61, Tryz.ntmps61
  go_wp2_with fail
  refine wp_loop_rounds 3 ?_
  iterate 3 (rw [rounds_succ]; go_wp2_with fail)
  obtain ⟨i0, hi, iz0, iz1, iz2⟩ := info_parts (P := Tryz.prog) change_info
  have hgr := grow_ch (l1.length + l2.length) w (by omega)
  have HGR := Lib.hid hgr
  clear hgr
  rw [show ((l1.length : Int) + (l2.length : Int)) = ((l1.length + l2.length : Nat) : Int) by omega]
  refine HGR.out.mono ?_
  rintro e w3 ⟨v3, rfl, ho3, hb3⟩
  obtain ⟨a3, c3, rfl, hc3, hm3⟩ := (SlR.of_own ho3).shape
  have HO3 := Lib.hid ho3
  have HB3 := Lib.hid hb3
  have s0 := (hb3.cell (p := ⟨r, 0, none⟩) (cell_lt hr0)).trans hr0
  have s1 := (hb3.cell (p := ⟨r, 1, none⟩) (cell_lt hr0)).trans hr1
  have hrl := cell_lt hr0
  clear ho3 hr0 hr1 hb3
  go_wp2_with fail
  refine wp_loop_rounds 3 ?_
  rw [rounds_succ]
  go_wp2_with (at_builtin; refine wpList_append_sl _ rfl _ _ 22 rfl w.heap.size 36 i0 (.agg #[.int .i64 0, .string ⟨#[]⟩]) 2 24 Tryz.underlying22 hi iz0 iz1 iz2 rfl (by decide) _ _ _ rfl HO3.out a1 l1.length c1 (chs l1) rfl (H1.out.below HB3.out) (by rw [chs_len]; omega) (chs_one l1) (by unfold maxLen; omega) (by omega) HB3.out.size ?_)
  intro v4 w4 ho4 hg4
  obtain ⟨a4, c4, rfl, hc4, hm4⟩ := (SlR.of_own ho4).shape
  have hne : ∀ b, b < w.heap.size → some b ≠ (Value.slice a3 0 c3).ownBlock := fun b hb e => by have := HO3.out.lt _ e.symm; omega
  have hb4 : Below w.heap.size w w4 := HB3.out.grown hg4 HB3.out.size (fun q hq => (HO3.out.lt q hq).1)
  have s1' := (World.cell?_of_block (w := w3) (a := ⟨r, 1, none⟩) (hg4.block r (Nat.lt_of_lt_of_le hrl HB3.out.size) (hne _ hrl))).trans s1
  have HO4 := Lib.hid ho4
  have HB4 := Lib.hid hb4
  clear s0 s1 ho4 hg4 hb4
  go_wp2_with fail
  rw [rounds_succ]
  go_wp2_with (at_builtin; refine wpList_append_sl _ rfl _ _ 22 rfl w.heap.size 36 i0 (.agg #[.int .i64 0, .string ⟨#[]⟩]) 2 24 Tryz.underlying22 hi iz0 iz1 iz2 rfl (by decide) _ _ _ rfl HO4.out a2 l2.length c2 (chs l2) rfl (H2.out.below HB4.out) (by rw [chs_len]; omega) (chs_one l2) (by unfold maxLen; omega) (by omega) HB4.out.size ?_)
  intro v5 w5 ho5 hg5
  have hb5 : Below w.heap.size w w5 := HB4.out.grown hg5 HB4.out.size (fun q hq => (HO4.out.lt q hq).1)
  have HO5 := Lib.hid ho5
  have HB5 := Lib.hid hb5
  clear ho5 hg5 hb5 s1'
  go_wp2_with fail
  rw [rounds_succ]
  go_wp2_with fail
  go_ret
  exact ⟨v5, rfl, by have := HO5.out; simpa [chs_append] using this, HB5.out⟩
end Go.Proofs.YtlbcfmhpkcpmaaaGreatDoor

namespace Go.Proofs.YtlbcfmhpkcpmaaaGreatDoor
open Go.RowKit

theorem chs_cut (l : List Ch) (i j : Nat) (hij : i ≤ j) : chs l = chs (l.take i) ++ (chs ((l.take j).drop i) ++ chs (l.drop j)) := by
  rw [← chs_append, ← chs_append]
  congr 1
  have h3 : l.take i = (l.take j).take i := by rw [List.take_take, Nat.min_eq_left hij]
  rw [h3, ← List.append_assoc, List.take_append_drop, List.take_append_drop]

/-- the cells of a part -/
theorem SlR.sub {w : World} {a : Option Addr} {cap : Nat} {l : List Ch} (h : SlR w (.slice a l.length cap) l.length (chs l)) (i j : Nat) (hij : i ≤ j) (hj : j ≤ l.length) :
    SlR w (.slice (if cap = i then a else a.map (·.add (i * 2))) ((l.take j).drop i).length (cap - i)) ((l.take j).drop i).length (chs ((l.take j).drop i)) := by
  obtain ⟨a', cap', hv, h1, h2, h3, h4⟩ := h
  injection hv with e1 _ e3
  subst e1 e3
  have hl : ((l.take j).drop i).length = j - i := by simp; omega
  refine ⟨_, _, rfl, by omega, by omega, fun h => ?_, fun hn => ?_⟩
  · by_cases hc : cap = i
    · omega
    · rw [if_neg hc] at h
      have := h3 (by simpa using h)
      omega
  · obtain ⟨b, o, rfl, hc⟩ := h4 (by omega)
    refine ⟨b, o + i * 2, by rw [if_neg (by omega)]; show some ((⟨b, o, none⟩ : Addr).add (i * 2)) = _; rw [addr_add], fun x u hx => ?_⟩
    have hx' := (List.getElem?_eq_some_iff.1 hx).1
    have h5 : (chs (l.take i)).length = i * 2 := by rw [chs_len]; simp; omega
    have := hc (i * 2 + x) u (by
      rw [chs_cut l i j hij, List.getElem?_append_right (by omega), h5, Nat.add_sub_cancel_left, List.getElem?_append_left hx']
      exact hx)
    rwa [← Nat.add_assoc] at this

theorem SlR.rest {w : World} {a : Option Addr} {cap : Nat} {l : List Ch} (h : SlR w (.slice a l.length cap) l.length (chs l)) (i : Nat) (hi : i ≤ l.length) :
    SlR w (.slice (if cap = i then a else a.map (·.add (i * 2))) (l.length - i) (cap - i)) (l.length - i) (chs (l.drop i)) := by
  have := h.sub i l.length hi (Nat.le_refl _)
  rw [List.take_length, List.length_drop] at this
  exact this

theorem ch_size (w : World) : (Go.sizeOf 36).run Tryz.prog w = .ok 2 w := by kernel_rfl

/-- 'l[i:]', its value not looked into -/
theorem slice_tail (a : Option Addr) (cap : Nat) (l : List Ch) (i : Nat) (hi : i ≤ l.length) :
    ∃ ad c, (∀ w, (Instr.slice 22 (.slice a l.length cap) (some (.int .i64 (i : Int))) none none).run Tryz.prog w = .ok (.slice ad (l.drop i).length c) w) ∧
      ∀ W, SlR W (.slice a l.length cap) l.length (chs l) → SlR W (.slice ad (l.drop i).length c) (l.drop i).length (chs (l.drop i)) := by
  refine ⟨if cap = i then a else a.map (·.add (i * 2)), cap - i, fun w => ?_, fun W h => ?_⟩
  · have ht : Tryz.prog.underlying 22 = some (.slice 36) := Tryz.underlying22
    have ht' : Tryz.prog.underlying 22 = some (.slice (Tryz.prog.elem 22)) := by simp [Program.elem, ht]
    have he : Tryz.prog.elem 22 = 36 := by simp [Program.elem, ht]
    rw [run_slice_l w 22 a l.length cap ht' .i64 _ (by omega) (by omega), he, ch_size]
    simp only [Result.andThen, sliced, List.length_drop, Int.toNat_natCast]
  · have := h.sub i l.length hi (Nat.le_refl _)
    rw [List.take_length] at this
    exact this

/-- 'l[:i]' -/
theorem slice_head (a : Option Addr) (cap : Nat) (l : List Ch) (i : Nat) (hi : i ≤ l.length) (hc : l.length ≤ cap) :
    ∃ ad c, (∀ w, (Instr.slice 22 (.slice a l.length cap) none (some (.int .i64 (i : Int))) none).run Tryz.prog w = .ok (.slice ad (l.take i).length c) w) ∧
      ∀ W, SlR W (.slice a l.length cap) l.length (chs l) → SlR W (.slice ad (l.take i).length c) (l.take i).length (chs (l.take i)) := by
  refine ⟨if cap = 0 then a else a.map (·.add (0 * 2)), cap - 0, fun w => ?_, fun W h => ?_⟩
  · have ht : Tryz.prog.underlying 22 = some (.slice 36) := Tryz.underlying22
    have ht' : Tryz.prog.underlying 22 = some (.slice (Tryz.prog.elem 22)) := by simp [Program.elem, ht]
    have he : Tryz.prog.elem 22 = 36 := by simp [Program.elem, ht]
    rw [run_slice_h w 22 a l.length cap ht' .i64 _ (by omega) (by omega), he, ch_size]
    simp only [Result.andThen, sliced, List.length_take, Int.toNat_natCast, Nat.sub_zero, Nat.min_eq_left hi]
  · have := h.sub 0 i (Nat.zero_le _) hi
    simpa only [List.drop_zero] using this
end Go.Proofs.YtlbcfmhpkcpmaaaGreatDoor
