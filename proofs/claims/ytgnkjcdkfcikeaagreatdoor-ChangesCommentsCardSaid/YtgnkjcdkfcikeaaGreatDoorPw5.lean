import Derived.Test.YtgnkjcdkfcikeaaGreatDoorPw4
namespace Go.Proofs.YtgnkjcdkfcikeaaGreatDoor
open Go.RowKit
set_option linter.unusedSimpArgs false

theorem own_block {w : World} {b : Nat} {C : Array Value} {T : TypeId} (h : w.heap[b]? = some (.cells C T (0, 0))) : OwnRow w b C.toList := fun j v hj => by
  rw [Array.getElem?_toList] at hj
  exact ⟨by simp [World.cell?, h, hj], by simp [World.frozen?, h]⟩
theorem KeepP.row {B : Nat} {V U : World} {b : Nat} {C : Array Value} {T : TypeId} (h : KeepP B V U) (hs : V.heap[b]? = some (.cells C T (0, 0))) (hB : b ≠ B) (h1 : T ≠ 45) (h2 : T ≠ 42) : OwnRow U b C.toList := own_block (h _ _ _ _ hB h1 h2 hs)
theorem block_later {w w' : World} {b : Nat} {o : Obj} (h : w.heap[b]? = some o) (hb : Below w.heap.size w w') : w'.heap[b]? = some o := by rw [hb.block b (Array.getElem?_eq_some_iff.1 h).1]; exact h
theorem bsB_tail (c : UInt8) (u : Bs) : (bsB (c :: u)).extract 1 (bsB (c :: u)).size = bsB u := by
  have : ((bsB (c :: u)).extract 1 (bsB (c :: u)).size).data.toList = (bsB u).data.toList := by
    rw [Lib.extract_data, bsB_list, bsB_list, bsB_size]
    simp
  rw [← bsB_of ((bsB (c :: u)).extract 1 (bsB (c :: u)).size), this, bsB_list]
theorem bsB_head (c : UInt8) (u : Bs) : (bsB (c :: u)).extract 0 1 = bsB [c] := by
  have : ((bsB (c :: u)).extract 0 1).data.toList = (bsB [c]).data.toList := by
    rw [Lib.extract_data, bsB_list, bsB_list]
    simp
  rw [← bsB_of ((bsB (c :: u)).extract 0 1), this, bsB_list]

def scalarQ (L : List Dcl) (s : PS) (w : Wd) (c0 : UInt8) (u : Bs) : PS := if u = [] then (if s.skip = true then s else s.prob 3 w) else changeQ s w w (knF L u) u [c0] [0, 3]
set_option maxHeartbeats 1600000 in
set_option maxRecDepth 100000 in
theorem ps_scalar (c : PC) (L : List Dcl) (i : Int) (s : PS) (vo vr : Value) (c0 : UInt8) (u : Bs) (o1 o2 o3 : Int) (W : World) (h : ParX c i s vo vr W) (hF : c.F = sigF L) (hg : Glob W) (hl : s.wrong.length ≤ 1000000) (hl2 : s.out.length ≤ 1000000)
    (hcs : u.length ≤ 140737488351232) :
    Calls Tryz.prog 49 #[.pointer (some ⟨c.B, 0, none⟩), wdV (c0 :: u, o1, o2, o3)] W (PPost c i (scalarQ L s (c0 :: u, o1, o2, o3) c0 u)) := by
  have hsz : (bsB (c0 :: u)).size = u.length + 1 := by rw [bsB_size, List.length_cons]
  have hB := h.lo
  obtain ⟨hB1, hB2⟩ := hB
  have HG := Lib.hid (hg.below ((Below.refl W.heap.size W).alloc (Nat.le_refl _) (.cells #[.string (bsB (c0 :: u)), .int .i64 o1, .int .i64 o2, .int .i64 o3] 39)))
  have HBK := Lib.hid (heap_alloc_new W (.cells #[.string (bsB (c0 :: u)), .int .i64 o1, .int .i64 o2, .int .i64 o3] 39))
  clear hg
  have hal : Below W.heap.size W (W.alloc (.cells #[.string (bsB (c0 :: u)), .int .i64 o1, .int .i64 o2, .int .i64 o3] 39)) := (Below.refl _ _).alloc (Nat.le_refl _) _
  have hx := OwnRow.fresh W #[.string (bsB (c0 :: u)), .int .i64 o1, .int .i64 o2, .int .i64 o3] 39
  have hz : W.heap.size < (W.alloc (.cells #[.string (bsB (c0 :: u)), .int .i64 o1, .int .i64 o2, .int .i64 o3] 39)).heap.size := by simp
  have H := Lib.hid (h.later hal)
  generalize hw1 : W.alloc (.cells #[.string (bsB (c0 :: u)), .int .i64 o1, .int .i64 o2, .int .i64 o3] 39) = w1 at *
  have x0 := hx.cell (j := 0) rfl
  have x1 := hx.cell (j := 1) rfl
  have x2 := hx.cell (j := 2) rfl
  have x3 := hx.cell (j := 3) rfl
  clear h hal hx
  by_cases hu : u = []
  · subst hu
    have hl1 : (((bsB [c0]).size : Int) == 1) = true := by rw [beq_iff_eq, hsz]; rfl
    clear hsz
    cases hsk : s.skip
    · have HR := Lib.hid (show s.prob 3 ([c0], o1, o2, o3) = scalarQ L s ([c0], o1, o2, o3) c0 [] by unfold scalarQ; rw [if_pos rfl, if_neg (by rw [hsk]; simp)])
      have p6 := H.out.row.cell (j := 6) rfl
      rw [hsk] at p6
      clear hsk
      go_enter Tryz.func49, Tryz.ntmps49
      go_wp2_with fail
      refine (ps_problem c i s vo vr 3 ([c0], o1, o2, o3) _ H.out hl).mono ?_
      rintro e w9 ⟨rfl, vo9, vr9, h9⟩
      have H9 := Lib.hid h9
      clear h9
      go_wp2_with fail
      go_end0
      exact ⟨rfl, _, _, HR.out ▸ H9.out⟩
    · have HR := Lib.hid (show s = scalarQ L s ([c0], o1, o2, o3) c0 [] by unfold scalarQ; rw [if_pos rfl, if_pos hsk])
      have p6 := H.out.row.cell (j := 6) rfl
      rw [hsk] at p6
      clear hsk
      go_enter Tryz.func49, Tryz.ntmps49
      go_wp2_with fail
      go_end0
      exact ⟨rfl, _, _, HR.out ▸ H.out⟩
  · have hl1 : (((bsB (c0 :: u)).size : Int) == 1) = false := by
      rw [beq_eq_false_iff_ne, hsz]
      have : u.length ≠ 0 := by simpa using hu
      omega
    have HR := Lib.hid (show changeQ s (c0 :: u, o1, o2, o3) (c0 :: u, o1, o2, o3) (knF L u) u [c0] [0, 3] = scalarQ L s (c0 :: u, o1, o2, o3) c0 u by unfold scalarQ; rw [if_neg hu])
    have hge : (1 : Int) ≤ ((bsB (c0 :: u)).size : Int) := by omega
    have hge2 : ((bsB (c0 :: u)).size : Int) ≤ 9223372036854775807 := by rw [hsz]; omega
    have hx1 := bsB_tail c0 u
    have hx2 := bsB_head c0 u
    clear hu hsz
    have hal2 : Below w1.heap.size w1 (w1.alloc (.cells #[.int .i64 0, .int .i64 3] 3)).drew := ((Below.refl _ _).alloc (Nat.le_refl _) _).drew
    have hks := OwnRow.fresh w1 #[.int .i64 0, .int .i64 3] 3
    have hz2 : w1.heap.size < (w1.alloc (.cells #[.int .i64 0, .int .i64 3] 3)).drew.heap.size := by show _ < (w1.alloc (.cells #[.int .i64 0, .int .i64 3] 3)).heap.size; simp
    have H2 := Lib.hid ((H.out.later hal2).start _ (KeepP.refl _ _))
    have HG2 := Lib.hid (HG.out.below hal2)
    have HBK2 := Lib.hid (block_later HBK.out hal2)
    have HKS := Lib.hid (show OwnRow (w1.alloc (.cells #[.int .i64 0, .int .i64 3] 3)).drew w1.heap.size (([0, 3] : List Int).map fun k => .int .i64 k) from hks)
    have HQ := Lib.hid (ps_change (c.from (w1.alloc (.cells #[.int .i64 0, .int .i64 3] 3)).drew) L i s vo vr (c0 :: u, o1, o2, o3) (c0 :: u, o1, o2, o3) u [c0] w1.heap.size [0, 3] _ H2.out hF HG2.out hl hl2 (by omega) (by simp) HKS.out hz2 (by simp))
    have hne : W.heap.size ≠ c.B := by omega
    have HK0 := Lib.hid (H.out.later hal2).kp
    clear hal2 hks hF
    go_enter Tryz.func49, Tryz.ntmps49
    go_wp2_with fail
    go_region_held3 (fun w' => w'.cell? ⟨W.heap.size, 0, none⟩ = some (.string (bsB (c0 :: u))) ∧ w'.cell? ⟨W.heap.size, 1, none⟩ = some (.int .i64 o1) ∧ w'.cell? ⟨W.heap.size, 2, none⟩ = some (.int .i64 o2) ∧ w'.cell? ⟨W.heap.size, 3, none⟩ = some (.int .i64 o3))
      (first | exact ⟨x0, x1, x2, x3⟩ | exact ⟨y0, y1, y2, y3⟩ | go_keep)
      (first
        | (go_at_call 60; refine HQ.out.mono ?_; rintro e w9 ⟨rfl, vo9, vr9, h9⟩; have HY9 := Lib.hid (h9.kp.row HBK2.out hne (by decide) (by decide)); have H9 := Lib.hid (h9.back HK0.out); have y0 := HY9.out.cell (j := 0) rfl; have y1 := HY9.out.cell (j := 1) rfl; have y2 := HY9.out.cell (j := 2) rfl; have y3 := HY9.out.cell (j := 3) rfl; clear h9)
        | fail "no arm")
    go_wp2_with fail
    go_end0
    exact ⟨rfl, _, _, HR.out ▸ H9.out⟩
end Go.Proofs.YtgnkjcdkfcikeaaGreatDoor
