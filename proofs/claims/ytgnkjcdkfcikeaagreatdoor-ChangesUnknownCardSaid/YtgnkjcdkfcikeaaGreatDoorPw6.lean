import Derived.Test.YtgnkjcdkfcikeaaGreatDoorPw5
namespace Go.Proofs.YtgnkjcdkfcikeaaGreatDoor
open Go.RowKit
set_option linter.unusedSimpArgs false

def skipP (s : PS) (w : Wd) : PS := if s.skip = true then s else s.prob 3 w
set_option maxHeartbeats 1600000 in
set_option maxRecDepth 100000 in
theorem ps_vectorE (c : PC) (i : Nat) (s : PS) (vo vr : Value) (w : Wd) (k : Int) (n : Nat) (W : World) (h : ParX c (i : Int) s vo vr W) (hl : s.wrong.length ≤ 1000000) (hn : c.wn = n) (hi : n ≤ i + 1) (hi2 : i ≤ 1000000) :
    Calls Tryz.prog 50 #[.pointer (some ⟨c.B, 0, none⟩), wdV w, .int .i64 k] W (PPost c i (skipP s w)) := by
  obtain ⟨tx, o1, o2, o3⟩ := w
  have hal : Below W.heap.size W (W.alloc (.cells #[.string (bsB tx), .int .i64 o1, .int .i64 o2, .int .i64 o3] 39)) := (Below.refl _ _).alloc (Nat.le_refl _) _
  have hx := OwnRow.fresh W #[.string (bsB tx), .int .i64 o1, .int .i64 o2, .int .i64 o3] 39
  have hz : W.heap.size < (W.alloc (.cells #[.string (bsB tx), .int .i64 o1, .int .i64 o2, .int .i64 o3] 39)).heap.size := by simp
  have H := Lib.hid (h.later hal)
  generalize hw1 : W.alloc (.cells #[.string (bsB tx), .int .i64 o1, .int .i64 o2, .int .i64 o3] 39) = w1 at *
  have x0 := hx.cell (j := 0) rfl
  have x1 := hx.cell (j := 1) rfl
  have x2 := hx.cell (j := 2) rfl
  have x3 := hx.cell (j := 3) rfl
  clear h hal hx
  have c0 := H.out.row.cell (j := 0) rfl
  have c1 := H.out.row.cell (j := 1) rfl
  have c6 := H.out.row.cell (j := 6) rfl
  rw [hn] at c0
  have hq1 : IntKind.i64.wrap ((i : Int) + 1) = (i : Int) + 1 := IntWalk.i64_in _ (by omega)
  have hge : decide ((n : Int) ≤ (i : Int) + 1) = true := by rw [decide_eq_true_iff]; omega
  clear hn
  cases hsk : s.skip
  · have HR := Lib.hid (show s.prob 3 (tx, o1, o2, o3) = skipP s (tx, o1, o2, o3) by unfold skipP; rw [if_neg (by rw [hsk]; simp)])
    rw [hsk] at c6
    clear hsk
    go_enter Tryz.func50, Tryz.ntmps50
    go_wp2_with fail
    go_quiet (fail)
    go_wp2_with fail
    refine (ps_problem c i s vo vr 3 (tx, o1, o2, o3) _ (H.out.later (below_drewN (Below.refl _ w1) nq)) hl).mono ?_
    rintro e w9 ⟨rfl, vo9, vr9, h9⟩
    have H9 := Lib.hid h9
    clear h9
    go_wp2_with fail
    go_end0
    exact ⟨rfl, _, _, HR.out ▸ H9.out⟩
  · have HR := Lib.hid (show s = skipP s (tx, o1, o2, o3) by unfold skipP; rw [if_pos hsk])
    rw [hsk] at c6
    clear hsk
    go_enter Tryz.func50, Tryz.ntmps50
    go_wp2_with fail
    go_quiet (fail)
    go_wp2_with fail
    go_end0
    exact ⟨rfl, _, _, HR.out ▸ H.out.later (below_drewN (Below.refl _ w1) nq)⟩

set_option maxHeartbeats 3200000 in
set_option maxRecDepth 100000 in
theorem ps_vector (c : PC) (L : List Dcl) (ws : List Wd) (i : Nat) (s : PS) (vo vr : Value) (c0 : UInt8) (u : Bs) (o1 o2 o3 : Int) (k : Int) (W : World) (h : ParX c (i : Int) s vo vr W) (hF : c.F = sigF L) (hg : Glob c.w0) (hl : s.wrong.length ≤ 1000000) (hl2 : s.out.length ≤ 1000000)
    (hcs : u.length ≤ 140737488351232) (hn : c.wn = ws.length) (hlt : i + 1 < ws.length) (hwl : ws.length ≤ 1000000) (hs : SlR c.w0 (.slice c.wa ws.length c.wc) ws.length (wds ws)) (hws : ws[i + 1].1.length ≤ 140737488351232) :
    Calls Tryz.prog 50 #[.pointer (some ⟨c.B, 0, none⟩), wdV (c0 :: u, o1, o2, o3), .int .i64 k] W (PPost c ((i : Int) + 1) (changeQ s (c0 :: u, o1, o2, o3) ws[i + 1] (knF L ws[i + 1].1) ws[i + 1].1 u [k])) := by
  have hsz : (bsB (c0 :: u)).size = u.length + 1 := by rw [bsB_size, List.length_cons]
  have hB := h.lo
  obtain ⟨hB1, hB2⟩ := hB
  have HG := Lib.hid hg
  have HBK := Lib.hid (heap_alloc_new W (.cells #[.string (bsB (c0 :: u)), .int .i64 o1, .int .i64 o2, .int .i64 o3] 39))
  clear hg
  have hal : Below W.heap.size W (W.alloc (.cells #[.string (bsB (c0 :: u)), .int .i64 o1, .int .i64 o2, .int .i64 o3] 39)) := (Below.refl _ _).alloc (Nat.le_refl _) _
  have hx := OwnRow.fresh W #[.string (bsB (c0 :: u)), .int .i64 o1, .int .i64 o2, .int .i64 o3] 39
  have hz : W.heap.size < (W.alloc (.cells #[.string (bsB (c0 :: u)), .int .i64 o1, .int .i64 o2, .int .i64 o3] 39)).heap.size := by simp
  have H := Lib.hid (h.later hal)
  generalize hw1 : W.alloc (.cells #[.string (bsB (c0 :: u)), .int .i64 o1, .int .i64 o2, .int .i64 o3] 39) = w1 at *
  have x0 := hx.cell (j := 0) rfl
  have x1 := hx.cell (j := 1) rfl
  have x2 := hx.cell (j := 2) rfl
  have x3 := hx.cell (j := 3) rfl
  clear h hal hx
  have p0 := H.out.row.cell (j := 0) rfl
  have p1 := H.out.row.cell (j := 1) rfl
  have f1 := H.out.row.free (j := 1) (by simp [parC])
  rw [hn] at p0
  have hq1 : IntKind.i64.wrap ((i : Int) + 1) = (i : Int) + 1 := IntWalk.i64_in _ (by omega)
  have hge : decide ((ws.length : Int) ≤ (i : Int) + 1) = false := by rw [decide_eq_false_iff_not]; omega
  have hge1 : (1 : Int) ≤ ((bsB (c0 :: u)).size : Int) := by omega
  have hge2 : ((bsB (c0 :: u)).size : Int) ≤ 9223372036854775807 := by rw [hsz]; omega
  have hx1 := bsB_tail c0 u
  have HS := Lib.hid hs
  have hne : W.heap.size ≠ c.B := by omega
  clear hs hsz
  go_enter Tryz.func50, Tryz.ntmps50
  go_wp2_with fail
  go_quiet (fail)
  go_wp2_with fail
  have H2 := Lib.hid ((H.out.later (below_drewN (Below.refl _ w1) nq)).at_ ((i : Int) + 1))
  have hz2 : ((w1.drewN nq).setCell ⟨c.B, 1, none⟩ (.int .i64 ((i : Int) + 1))).heap.size = w1.heap.size := by simp
  have HBK2 := Lib.hid (show ((w1.drewN nq).setCell ⟨c.B, 1, none⟩ (.int .i64 ((i : Int) + 1))).heap[W.heap.size]? = _ from (Below.heap_setCell _ _ _ _ hne).trans HBK.out)
  have hkp2 : KeepP c.B w1 ((w1.drewN nq).setCell ⟨c.B, 1, none⟩ (.int .i64 ((i : Int) + 1))) := (KeepP.below (below_drewN (Below.refl _ w1) nq)).trans (.setCell _ _ _ _)
  clear p0 p1 f1 x0 x1 x2 x3 hge
  generalize (w1.drewN nq).setCell ⟨c.B, 1, none⟩ (.int .i64 ((i : Int) + 1)) = w2 at *
  have p0 := H2.out.row.cell (j := 0) rfl
  have p1 := H2.out.row.cell (j := 1) rfl
  obtain ⟨b, o, e1, g0, g1, g2, g3⟩ := (HS.out.below H2.out.b).wds hlt
  rw [e1, hn] at p0
  clear e1
  generalize hh : ws[i + 1] = hd at g0 g1 g2 g3 hws ⊢
  obtain ⟨t2, b1, b2, b3⟩ := hd
  dsimp only at g0 g1 g2 g3 hws ⊢
  have hi1 : (0 : Int) ≤ (i : Int) + 1 := by omega
  have hi2 : (i : Int) + 1 < (ws.length : Int) := by omega
  have hi3 : ((i : Int) + 1).toNat = i + 1 := by omega
  have n0 := World.new_ne w2 _ p0
  have n1 := World.new_ne w2 _ g0
  have HH := Lib.hid hh
  clear hh hn
  go_region_held3 (fun w' => w'.cell? ⟨c.B, 0, none⟩ = some (.slice (some ⟨b, o, none⟩) ws.length c.wc) ∧ w'.cell? ⟨c.B, 1, none⟩ = some (.int .i64 ((i : Int) + 1)) ∧ w'.cell? ⟨b, o + (i + 1) * 4, none⟩ = some (.string (bsB t2)) ∧ w'.cell? ⟨b, o + (i + 1) * 4 + 1, none⟩ = some (.int .i64 b1) ∧ w'.cell? ⟨b, o + (i + 1) * 4 + 2, none⟩ = some (.int .i64 b2) ∧ w'.cell? ⟨b, o + (i + 1) * 4 + 3, none⟩ = some (.int .i64 b3))
    (first | exact ⟨p0, p1, g0, g1, g2, g3⟩ | go_keep) (fail)
  clear p0 p1 g0 g1 g2 g3 hi1 hi2 hi3 n0 n1
  have hal3 : Below w2.heap.size w2 (w2.alloc (.cells #[.string (bsB t2), .int .i64 b1, .int .i64 b2, .int .i64 b3] 39)).drew := ((Below.refl _ _).alloc (Nat.le_refl _) _).drew
  have HBX := Lib.hid (show (w2.alloc (.cells #[.string (bsB t2), .int .i64 b1, .int .i64 b2, .int .i64 b3] 39)).drew.heap[w1.heap.size]? = _ from hz2 ▸ heap_alloc_new w2 (.cells #[.string (bsB t2), .int .i64 b1, .int .i64 b2, .int .i64 b3] 39))
  have HBK3 := Lib.hid (block_later HBK2.out hal3)
  have H3 := Lib.hid (H2.out.later hal3)
  have hz3 : (w2.alloc (.cells #[.string (bsB t2), .int .i64 b1, .int .i64 b2, .int .i64 b3] 39)).drew.heap.size = w1.heap.size + 1 := by
    show (w2.alloc (.cells #[.string (bsB t2), .int .i64 b1, .int .i64 b2, .int .i64 b3] 39)).heap.size = _
    simp [hz2]
  generalize (w2.alloc (.cells #[.string (bsB t2), .int .i64 b1, .int .i64 b2, .int .i64 b3] 39)).drew = w3 at *
  clear hal3 hkp2 HBK2
  have x0 := (own_block HBK3.out).cell (j := 0) rfl
  have x1 := (own_block HBK3.out).cell (j := 1) rfl
  have x2 := (own_block HBK3.out).cell (j := 2) rfl
  have x3 := (own_block HBK3.out).cell (j := 3) rfl
  have y0 := (own_block HBX.out).cell (j := 0) rfl
  have y1 := (own_block HBX.out).cell (j := 1) rfl
  have y2 := (own_block HBX.out).cell (j := 2) rfl
  have y3 := (own_block HBX.out).cell (j := 3) rfl
  have hne2 : w1.heap.size ≠ c.B := by omega
  have hal4 : Below w3.heap.size w3 (w3.alloc (.cells #[.int .i64 k] 3)).drew := ((Below.refl _ _).alloc (Nat.le_refl _) _).drew
  have hks := OwnRow.fresh w3 #[.int .i64 k] 3
  rw [hz3] at hks
  have hz4 : w1.heap.size + 1 < (w3.alloc (.cells #[.int .i64 k] 3)).drew.heap.size := by show _ < (w3.alloc (.cells #[.int .i64 k] 3)).heap.size; simp [hz3]
  have H4 := Lib.hid ((H3.out.later hal4).start _ (KeepP.refl _ _))
  have HK0 := Lib.hid (H3.out.later hal4).kp
  have HB1 := Lib.hid (block_later HBK3.out hal4)
  have HB2 := Lib.hid (block_later HBX.out hal4)
  have HKS := Lib.hid (show OwnRow (w3.alloc (.cells #[.int .i64 k] 3)).drew (w1.heap.size + 1) (([k] : List Int).map fun k => .int .i64 k) from hks)
  have HQ := Lib.hid (ps_change (c.from (w3.alloc (.cells #[.int .i64 k] 3)).drew) L ((i : Int) + 1) s vo vr (c0 :: u, o1, o2, o3) (t2, b1, b2, b3) t2 u (w1.heap.size + 1) [k] _ H4.out hF (HG.out.below (H3.out.later hal4).b) hl hl2 hws (by omega) HKS.out hz4 (by simp))
  clear hal4 hks hF
  go_wp2_with fail
  go_region_held3 (fun w' => w'.cell? ⟨W.heap.size, 0, none⟩ = some (.string (bsB (c0 :: u))) ∧ w'.cell? ⟨W.heap.size, 1, none⟩ = some (.int .i64 o1) ∧ w'.cell? ⟨W.heap.size, 2, none⟩ = some (.int .i64 o2) ∧ w'.cell? ⟨W.heap.size, 3, none⟩ = some (.int .i64 o3) ∧ w'.cell? ⟨w1.heap.size, 0, none⟩ = some (.string (bsB t2)) ∧ w'.cell? ⟨w1.heap.size, 1, none⟩ = some (.int .i64 b1) ∧ w'.cell? ⟨w1.heap.size, 2, none⟩ = some (.int .i64 b2) ∧ w'.cell? ⟨w1.heap.size, 3, none⟩ = some (.int .i64 b3))
    (first | exact ⟨x0, x1, x2, x3, y0, y1, y2, y3⟩ | exact ⟨z0, z1, z2, z3, v0, v1, v2, v3⟩ | go_keep)
    (first
      | (go_at_call 60; refine HQ.out.mono ?_; rintro e w9 ⟨rfl, vo9, vr9, h9⟩; have HY9 := Lib.hid (h9.kp.row HB1.out hne (by decide) (by decide)); have HV9 := Lib.hid (h9.kp.row HB2.out hne2 (by decide) (by decide)); have H9 := Lib.hid (h9.back HK0.out); have z0 := HY9.out.cell (j := 0) rfl; have z1 := HY9.out.cell (j := 1) rfl; have z2 := HY9.out.cell (j := 2) rfl; have z3 := HY9.out.cell (j := 3) rfl; have v0 := HV9.out.cell (j := 0) rfl; have v1 := HV9.out.cell (j := 1) rfl; have v2 := HV9.out.cell (j := 2) rfl; have v3 := HV9.out.cell (j := 3) rfl; clear h9)
      | fail "no arm")
  go_wp2_with fail
  go_end0
  exact ⟨rfl, _, _, by rw [HH.out]; exact H9.out⟩
end Go.Proofs.YtgnkjcdkfcikeaaGreatDoor
