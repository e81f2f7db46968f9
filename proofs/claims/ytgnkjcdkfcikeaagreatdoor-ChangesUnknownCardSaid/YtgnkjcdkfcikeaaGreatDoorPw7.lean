import Derived.Test.YtgnkjcdkfcikeaaGreatDoorPw6
import Derived.Test.YtgnkjcdkfcikeaaGreatDoorCt
import Derived.Lib.SmallJoins
namespace Go.Proofs.YtgnkjcdkfcikeaaGreatDoor
open Go.RowKit
set_option linter.unusedSimpArgs false

/-- the variables that strconv.Atoi reads -/
def GlobE (w : World) : Prop := (∃ tp p, w.var? Tryz.prog "strconv.ErrSyntax" = some #[.iface tp p]) ∧ (∃ tp p, w.var? Tryz.prog "strconv.ErrRange" = some #[.iface tp p])
theorem globalErrS : Tryz.prog.globalNamed "strconv.ErrSyntax" = some 1 := by kernel_rfl
theorem globalErrR : Tryz.prog.globalNamed "strconv.ErrRange" = some 2 := by kernel_rfl
theorem var_below {w w' : World} {nm : String} {g : Nat} (hn : Tryz.prog.globalNamed nm = some g) {x : Array Value} (h : w.var? Tryz.prog nm = some x) (hb : Below w.heap.size w w') : w'.var? Tryz.prog nm = some x := by
  unfold World.var? at *
  simp only [hn, Option.bind_some] at *
  have hlt : g < w.heap.size := by
    rcases Nat.lt_or_ge g w.heap.size with h' | h'
    · exact h'
    · rw [Array.getElem?_eq_none h'] at h; simp at h
  rw [hb.block _ hlt]
  exact h
theorem GlobE.below {w w' : World} (h : GlobE w) (hb : Below w.heap.size w w') : GlobE w' := by
  obtain ⟨⟨t1, p1, h1⟩, t2, p2, h2⟩ := h
  exact ⟨⟨t1, p1, var_below globalErrS h1 hb⟩, t2, p2, var_below globalErrR h2 hb⟩
def AtoiPost (l : Bs) (w : World) (e : Ending) (w' : World) : Prop :=
  (∃ v, Lib.atoiAll l = .ok v ∧ e = .returned (.tuple #[.int .i64 v, .nilIface]) ∧ Below w.heap.size w w') ∨ ((∀ v, Lib.atoiAll l ≠ .ok v) ∧ ∃ v t a, e = .returned (.tuple #[.int .i64 v, .iface t (.pointer (some a))]) ∧ Below w.heap.size w w')
theorem con_Atoi (l : Bs) (w : World) (hg : GlobE w) (hl : l.length ≤ 281474976710656) : Calls Tryz.prog 57 #[.string (bsB l)] w (AtoiPost l w) := by
  obtain ⟨⟨t1, p1, h1⟩, t2, p2, h2⟩ := hg
  have hs : (bsB l).size = l.length := bsB_size l
  cases ha : Lib.atoiAll l
  · rename_i v
    refine (Tryz.strconv_Atoi_ok (bsB l) (by omega) v (by rw [bsB_list]; exact ha) w).mono ?_
    rintro e w' ⟨rfl, rfl | ⟨t, rfl⟩⟩
    · exact .inl ⟨v, ha, rfl, Below.refl _ _⟩
    · exact .inl ⟨v, ha, rfl, Go.Joins.below_bytesWorld _ _ _ _ (Nat.le_refl _)⟩
  · refine (Tryz.strconv_Atoi_syntax_var (bsB l) (by omega) (by rw [bsB_list]; exact ha) t1 p1 w h1).mono ?_
    rintro e w' ⟨N, rfl, -, -, hb⟩
    exact .inr ⟨(fun v h => by rw [ha] at h; cases h), _, _, _, rfl, hb⟩
  · refine (Tryz.strconv_Atoi_range_var (bsB l) (by omega) (by rw [bsB_list]; exact ha) t2 p2 w h2).mono ?_
    rintro e w' ⟨N, rfl, -, -, hb⟩
    exact .inr ⟨(fun v h => by rw [ha] at h; cases h), _, _, _, rfl, hb⟩
theorem con_AnySign (l : Bs) (w : World) (hl : l.length ≤ 15) (ha : ∀ c ∈ l, isD c = true ∨ c.toNat = 43 ∨ c.toNat = 45) :
    Calls Tryz.prog 58 #[.string (bsB l), .string ⟨#[43, 45]⟩] w fun e w' => e = .returned (.bool (Lib.containsAny l [43, 45])) ∧ Below w.heap.size w w' := by
  have := Tryz.strings_ContainsAny_laid (bsB l) ⟨#[43, 45]⟩ w (by rw [bsB_size]; omega) (by decide) (fun j b hb => by
    rw [bsB_list] at hb
    rcases ha b (List.mem_of_getElem? hb) with h | h | h
    · have := (isD_iff b).1 h; omega
    · omega
    · omega) (fun j b hb => by
    have := List.mem_of_getElem? hb
    simp at this
    rcases this with rfl | rfl <;> decide)
  rw [bsB_list] at this
  exact this

def PS.setSkip (s : PS) (b : Bool) : PS := { s with skip := b }
def PS.setLast (s : PS) (t : Int) : PS := { s with last := t }
theorem ParX.skp {c : PC} {i : Int} {s : PS} {vo vr : Value} {W : World} (h : ParX c i s vo vr W) (b : Bool) : ParX c i (s.setSkip b) vo vr (W.setCell ⟨c.B, 6, none⟩ (.bool b)) := h.set 6 (.bool b) rfl rfl rfl
theorem ParX.lst {c : PC} {i : Int} {s : PS} {vo vr : Value} {W : World} (h : ParX c i s vo vr W) (t : Int) : ParX c i (s.setLast t) vo vr (W.setCell ⟨c.B, 3, none⟩ (.int .i64 t)) := h.set 3 (.int .i64 t) rfl rfl rfl
theorem time_none {s : PS} {c0 : UInt8} {u : Bs} {o1 o2 o3 : Int} (h : timeS u = none) : (s.setSkip true).prob 3 (c0 :: u, o1, o2, o3) = timeP s (c0 :: u, o1, o2, o3) := by
  unfold timeP PS.setSkip
  rw [show ((c0 :: u, o1, o2, o3) : Wd).1.drop 1 = u from rfl, h]
theorem time_range {s : PS} {c0 : UInt8} {u : Bs} {o1 o2 o3 t : Int} (h : timeS u = some t) (ht : t > 1099511627776 ∨ t < s.last) : (s.setSkip true).prob 2 (c0 :: u, o1, o2, o3) = timeP s (c0 :: u, o1, o2, o3) := by
  unfold timeP PS.setSkip
  rw [show ((c0 :: u, o1, o2, o3) : Wd).1.drop 1 = u from rfl, h]
  simp only
  rw [if_pos ht]
theorem time_good {s : PS} {c0 : UInt8} {u : Bs} {o1 o2 o3 t : Int} (h : timeS u = some t) (ht : ¬ (t > 1099511627776 ∨ t < s.last)) : (((s.setSkip true).setSkip false).setLast t).put (0, t, [], []) = timeP s (c0 :: u, o1, o2, o3) := by
  unfold timeP PS.setSkip PS.setLast
  rw [show ((c0 :: u, o1, o2, o3) : Wd).1.drop 1 = u from rfl, h]
  simp only
  rw [if_neg ht]

set_option maxHeartbeats 1600000 in
set_option maxRecDepth 100000 in
theorem ps_time (c : PC) (i : Int) (s : PS) (vo vr : Value) (c0 : UInt8) (u : Bs) (o1 o2 o3 : Int) (W : World) (h : ParX c i s vo vr W) (hg : GlobE c.w0) (hl : s.wrong.length ≤ 1000000) (hl2 : s.out.length ≤ 1000000)
    (hcs : u.length ≤ 140737488351232) :
    Calls Tryz.prog 47 #[.pointer (some ⟨c.B, 0, none⟩), wdV (c0 :: u, o1, o2, o3)] W (PPost c i (timeP s (c0 :: u, o1, o2, o3))) := by
  have hsz : (bsB (c0 :: u)).size = u.length + 1 := by rw [bsB_size, List.length_cons]
  have HLO := Lib.hid h.lo
  have HBK := Lib.hid (heap_alloc_new W (.cells #[.string (bsB (c0 :: u)), .int .i64 o1, .int .i64 o2, .int .i64 o3] 39))
  have hal : Below W.heap.size W (W.alloc (.cells #[.string (bsB (c0 :: u)), .int .i64 o1, .int .i64 o2, .int .i64 o3] 39)) := (Below.refl _ _).alloc (Nat.le_refl _) _
  have hx := OwnRow.fresh W #[.string (bsB (c0 :: u)), .int .i64 o1, .int .i64 o2, .int .i64 o3] 39
  have hz : W.heap.size < (W.alloc (.cells #[.string (bsB (c0 :: u)), .int .i64 o1, .int .i64 o2, .int .i64 o3] 39)).heap.size := by simp
  have H := Lib.hid (h.later hal)
  generalize hw1 : W.alloc (.cells #[.string (bsB (c0 :: u)), .int .i64 o1, .int .i64 o2, .int .i64 o3] 39) = w1 at *
  have x0 := hx.cell (j := 0) rfl
  have x1 := hx.cell (j := 1) rfl
  have x2 := hx.cell (j := 2) rfl
  have x3 := hx.cell (j := 3) rfl
  clear h hal hx
  have hge1 : (1 : Int) ≤ ((bsB (c0 :: u)).size : Int) := by omega
  have hge2 : ((bsB (c0 :: u)).size : Int) ≤ 9223372036854775807 := by rw [hsz]; omega
  have hx1 := bsB_tail c0 u
  have hsu : (bsB u).size = u.length := bsB_size u
  have HAT := Lib.hid (con_Atoi u w1 (hg.below H.out.b) (by omega))
  clear hsz hg
  go_enter Tryz.func47, Tryz.ntmps47
  go_wp2_with fail
  refine HAT.out.mono ?_
  rintro e w2 (⟨v, hv, rfl, hb2⟩ | ⟨hv, v, t, a, rfl, hb2⟩)
  · have hv0 := hv
    have HA := Lib.hid ((H.out.later hb2).skp true)
    have HBA := Lib.hid (show (w2.setCell ⟨c.B, 6, none⟩ (.bool true)).heap[W.heap.size]? = _ from (Below.heap_setCell _ _ _ _ (by have := HLO.out.2; show W.heap.size ≠ c.B; omega)).trans (block_later HBK.out hb2))
    have p6 := (H.out.later hb2).row.cell (j := 6) rfl
    have f6 := (H.out.later hb2).row.free (j := 6) (by simp [parC])
    have y0 := (own_block (block_later HBK.out hb2)).cell (j := 0) rfl
    have y1 := (own_block (block_later HBK.out hb2)).cell (j := 1) rfl
    have y2 := (own_block (block_later HBK.out hb2)).cell (j := 2) rfl
    have y3 := (own_block (block_later HBK.out hb2)).cell (j := 3) rfl
    have HV := Lib.hid hv
    by_cases hlen : 15 < u.length
    · have HR := Lib.hid (time_none (s := s) (c0 := c0) (o1 := o1) (o2 := o2) (o3 := o3) (timeS_long hlen))
      have hd : decide ((15 : Int) < (u.length : Int)) = true := by rw [decide_eq_true_iff]; omega
      clear hv hv0 hb2 HAT hlen
      go_wp2_with fail
      refine (ps_problem c i (s.setSkip true) vo vr 3 (c0 :: u, o1, o2, o3) _ HA.out hl).mono ?_
      rintro e w9 ⟨rfl, vo9, vr9, h9⟩
      have H9 := Lib.hid h9
      clear h9
      go_wp2_with fail
      go_end0
      exact ⟨rfl, _, _, HR.out ▸ H9.out⟩
    · have hd : decide ((15 : Int) < (u.length : Int)) = false := by rw [decide_eq_false_iff_not]; omega
      have HCA := Lib.hid (con_AnySign u (w2.setCell ⟨c.B, 6, none⟩ (.bool true)) (by omega) (atoi_ok hv).2.1)
      have HLE := Lib.hid (show u.length ≤ 15 by omega)
      clear hv hv0 hb2 HAT hlen
      cases hca : Lib.containsAny u [43, 45]
      · have hts := timeS_ok HV.out HLE.out hca
        rw [hca] at HCA
        clear hca
        go_wp2_with fail
        refine HCA.out.mono ?_
        rintro e w3 ⟨rfl, hb3⟩
        have HT := Lib.hid hts
        have HA := Lib.hid (HA.out.later hb3)
        have p3 := HA.out.row.cell (j := 3) rfl
        have p6 := HA.out.row.cell (j := 6) rfl
        have f3 := HA.out.row.free (j := 3) (by simp [parC])
        have f6 := HA.out.row.free (j := 6) (by simp [parC])
        have y0 := (own_block (block_later HBA.out hb3)).cell (j := 0) rfl
        have y1 := (own_block (block_later HBA.out hb3)).cell (j := 1) rfl
        have y2 := (own_block (block_later HBA.out hb3)).cell (j := 2) rfl
        have y3 := (own_block (block_later HBA.out hb3)).cell (j := 3) rfl
        rw [show (s.setSkip true).last = s.last from rfl] at p3
        clear hb3 hts
        by_cases h1 : 1099511627776 < v
        · have HR := Lib.hid (time_range (s := s) (c0 := c0) (o1 := o1) (o2 := o2) (o3 := o3) HT.out (.inl h1))
          have d1 : decide ((1099511627776 : Int) < v) = true := by rw [decide_eq_true_iff]; exact h1
          clear h1
          go_wp2_with fail
          refine (ps_problem c i (s.setSkip true) vo vr 2 (c0 :: u, o1, o2, o3) _ HA.out hl).mono ?_
          rintro e w9 ⟨rfl, vo9, vr9, h9⟩
          have H9 := Lib.hid h9
          clear h9
          go_wp2_with fail
          go_end0
          exact ⟨rfl, _, _, HR.out ▸ H9.out⟩
        · have d1 : decide ((1099511627776 : Int) < v) = false := by rw [decide_eq_false_iff_not]; exact h1
          by_cases h2 : v < s.last
          · have HR := Lib.hid (time_range (s := s) (c0 := c0) (o1 := o1) (o2 := o2) (o3 := o3) HT.out (.inr h2))
            have d2 : decide (v < s.last) = true := by rw [decide_eq_true_iff]; exact h2
            clear h1 h2
            go_wp2_with fail
            refine (ps_problem c i (s.setSkip true) vo vr 2 (c0 :: u, o1, o2, o3) _ HA.out hl).mono ?_
            rintro e w9 ⟨rfl, vo9, vr9, h9⟩
            have H9 := Lib.hid h9
            clear h9
            go_wp2_with fail
            go_end0
            exact ⟨rfl, _, _, HR.out ▸ H9.out⟩
          · have HR := Lib.hid (time_good (s := s) (c0 := c0) (o1 := o1) (o2 := o2) (o3 := o3) HT.out (by omega))
            have d2 : decide (v < s.last) = false := by rw [decide_eq_false_iff_not]; exact h2
            have HQ := Lib.hid ((HA.out.skp false).lst v)
            clear h1 h2
            go_wp2_with fail
            refine (ps_record c i _ _ _ (0, v, [], []) _ HQ.out hl2).mono ?_
            rintro e w9 ⟨rfl, vo9, vr9, h9⟩
            have H9 := Lib.hid h9
            clear h9
            go_wp2_with fail
            go_end0
            exact ⟨rfl, _, _, HR.out ▸ H9.out⟩
      · have HR := Lib.hid (time_none (s := s) (c0 := c0) (o1 := o1) (o2 := o2) (o3 := o3) (timeS_sign hca))
        rw [hca] at HCA
        clear hca
        go_wp2_with fail
        refine HCA.out.mono ?_
        rintro e w3 ⟨rfl, hb3⟩
        have HA := Lib.hid (HA.out.later hb3)
        have y0 := (own_block (block_later HBA.out hb3)).cell (j := 0) rfl
        have y1 := (own_block (block_later HBA.out hb3)).cell (j := 1) rfl
        have y2 := (own_block (block_later HBA.out hb3)).cell (j := 2) rfl
        have y3 := (own_block (block_later HBA.out hb3)).cell (j := 3) rfl
        clear hb3
        go_wp2_with fail
        refine (ps_problem c i (s.setSkip true) vo vr 3 (c0 :: u, o1, o2, o3) _ HA.out hl).mono ?_
        rintro e w9 ⟨rfl, vo9, vr9, h9⟩
        have H9 := Lib.hid h9
        clear h9
        go_wp2_with fail
        go_end0
        exact ⟨rfl, _, _, HR.out ▸ H9.out⟩
  · have HR := Lib.hid (time_none (s := s) (c0 := c0) (o1 := o1) (o2 := o2) (o3 := o3) (timeS_bad hv))
    have HA := Lib.hid ((H.out.later hb2).skp true)
    have HBA := Lib.hid (show (w2.setCell ⟨c.B, 6, none⟩ (.bool true)).heap[W.heap.size]? = _ from (Below.heap_setCell _ _ _ _ (by have := HLO.out.2; show W.heap.size ≠ c.B; omega)).trans (block_later HBK.out hb2))
    have p6 := (H.out.later hb2).row.cell (j := 6) rfl
    have f6 := (H.out.later hb2).row.free (j := 6) (by simp [parC])
    have y0 := (own_block (block_later HBK.out hb2)).cell (j := 0) rfl
    have y1 := (own_block (block_later HBK.out hb2)).cell (j := 1) rfl
    have y2 := (own_block (block_later HBK.out hb2)).cell (j := 2) rfl
    have y3 := (own_block (block_later HBK.out hb2)).cell (j := 3) rfl
    clear hv hb2 HAT
    go_wp2_with fail
    refine (ps_problem c i (s.setSkip true) vo vr 3 (c0 :: u, o1, o2, o3) _ HA.out hl).mono ?_
    rintro e w9 ⟨rfl, vo9, vr9, h9⟩
    have H9 := Lib.hid h9
    clear h9
    go_wp2_with fail
    go_end0
    exact ⟨rfl, _, _, HR.out ▸ H9.out⟩
end Go.Proofs.YtgnkjcdkfcikeaaGreatDoor
