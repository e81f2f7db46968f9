import Derived.Test.YtgnkjcdkfcikeaaGreatDoorPw8
namespace Go.Proofs.YtgnkjcdkfcikeaaGreatDoor
open Go.RowKit
set_option linter.unusedSimpArgs false

/-! one command -/
structure CX (c : PC) (L : List Dcl) (ws : List Wd) (i : Nat) (s : PS) (vo vr : Value) (W : World) : Prop where
  h : ParX c (i : Int) s vo vr W
  F : c.F = sigF L
  G : c.G = kwF c.B
  g : Glob c.w0
  e : GlobE c.w0
  l1 : s.wrong.length ≤ 1000000
  l2 : s.out.length ≤ 1000000
  n : c.wn = ws.length
  wl : ws.length ≤ 1000000
  i : i < ws.length
  s : SlR c.w0 (.slice c.wa ws.length c.wc) ws.length (wds ws)
  t : ∀ x ∈ ws, x.1.length ≤ 140737488351232
theorem zeroFn (w : World) : (zeroValue 108).run Tryz.prog w = .ok .nilFunc w := by kernel_rfl
theorem ps_kw {c : PC} {i : Int} {s : PS} {vo vr : Value} {W : World} (h : ParX c i s vo vr W) (hG : c.G = kwF c.B) {tx : Bs} (hc : tx.length ≤ 140737488351232) :
    (Instr.lookup 83 (.map (some c.kb)) (.string (bsB tx)) true).run Tryz.prog W = .ok (.tuple #[(kwF c.B tx).getD .nilFunc, .bool (kwF c.B tx).isSome]) W := by
  have := h.k.look (t := 83) Tryz.underlying9 Tryz.underlying83 (zeroFn W) (bsB tx) (by rw [bsB_size]; unfold maxLen; omega)
  rwa [bsB_list, hG] at this
theorem bsB_at0 (c0 : UInt8) (u : Bs) (h : 0 < (bsB (c0 :: u)).size) : (bsB (c0 :: u))[0]'h = c0 := rfl
theorem byte_ne {c0 k : UInt8} (h : c0 ≠ k) : ((c0.toNat : Int) == (k.toNat : Int)) = false := by
  rw [beq_eq_false_iff_ne]
  intro e
  exact h (UInt8.toNat_inj.1 (by omega))
set_option maxHeartbeats 1600000 in
set_option maxRecDepth 100000 in
theorem ps_cmdT (c : PC) (L : List Dcl) (ws : List Wd) (i : Nat) (s : PS) (vo vr : Value) (u : Bs) (o1 o2 o3 : Int) (W : World) (hx : CX c L ws i s vo vr W) (hwi : ws[i]'hx.i = (35 :: u, o1, o2, o3))  :
    Calls Tryz.prog 34 #[.pointer (some ⟨c.B, 0, none⟩), .map (some c.kb)] W (PPost c ((i : Int)) (timeP s (35 :: u, o1, o2, o3))) := by
  have hsz : (bsB (35 :: u)).size = (35 :: u : Bs).length := bsB_size _
  have hul : (35 :: u : Bs).length ≤ 140737488351232 := by have := hx.t _ (List.getElem_mem hx.i); rwa [hwi] at this
  simp only [List.length_cons] at hsz hul
  have hge1 : (0 : Int) < ((bsB (35 :: u)).size : Int) := by omega
  have hix := bsB_at0 35 u
  obtain ⟨b, o, e1, g0, g1, g2, g3⟩ := (hx.s.below hx.h.b).wds hx.i
  rw [hwi] at g0 g1 g2 g3
  dsimp only at g0 g1 g2 g3
  have p0 := hx.h.row.cell (j := 0) rfl
  have p1 := hx.h.row.cell (j := 1) rfl
  rw [hx.n, e1] at p0
  have n0 := World.new_ne W _ p0
  have n1 := World.new_ne W _ g0
  have hal : Below W.heap.size W (W.alloc (.cells #[.string (bsB (35 :: u)), .int .i64 o1, .int .i64 o2, .int .i64 o3] 39)).drew := ((Below.refl _ _).alloc (Nat.le_refl _) _).drew
  have HBK := Lib.hid (show (W.alloc (.cells #[.string (bsB (35 :: u)), .int .i64 o1, .int .i64 o2, .int .i64 o3] 39)).drew.heap[W.heap.size]? = _ from heap_alloc_new W (.cells #[.string (bsB (35 :: u)), .int .i64 o1, .int .i64 o2, .int .i64 o3] 39))
  have H1 := Lib.hid (hx.h.later hal)
  have hi1 : (0 : Int) ≤ (i : Int) := by omega
  have hi2 : (i : Int) < (ws.length : Int) := by have := hx.i; omega
  have HX := Lib.hid hx
  clear hal e1 hwi hsz
  go_enter Tryz.func34, Tryz.ntmps34
  go_upto_region 0 with fail
  go_region_held3 (fun w' => w'.cell? ⟨c.B, 0, none⟩ = some (.slice (some ⟨b, o, none⟩) ws.length c.wc) ∧ w'.cell? ⟨c.B, 1, none⟩ = some (.int .i64 (i : Int)) ∧ w'.cell? ⟨b, o + i * 4, none⟩ = some (.string (bsB (35 :: u))) ∧ w'.cell? ⟨b, o + i * 4 + 1, none⟩ = some (.int .i64 o1) ∧ w'.cell? ⟨b, o + i * 4 + 2, none⟩ = some (.int .i64 o2) ∧ w'.cell? ⟨b, o + i * 4 + 3, none⟩ = some (.int .i64 o3))
    (first | exact ⟨p0, p1, g0, g1, g2, g3⟩ | go_keep) (fail)
  clear p0 p1 g0 g1 g2 g3 n0 n1 hi1 hi2 hx
  generalize (W.alloc (.cells #[.string (bsB (35 :: u)), .int .i64 o1, .int .i64 o2, .int .i64 o3] 39)).drew = w1 at *
  have x0 := (own_block HBK.out).cell (j := 0) rfl
  have x1 := (own_block HBK.out).cell (j := 1) rfl
  have x2 := (own_block HBK.out).cell (j := 2) rfl
  have x3 := (own_block HBK.out).cell (j := 3) rfl
  have hk : True := trivial
  go_wp2_with fail
  refine (ps_time c i s vo vr 35 u o1 o2 o3 _ H1.out HX.out.e HX.out.l1 HX.out.l2 (by omega)).mono ?_
  rintro e w9 ⟨rfl, vo9, vr9, h9⟩
  have H9 := Lib.hid h9
  clear h9
  go_wp2_with fail
  go_end0
  exact ⟨rfl, _, _, H9.out⟩
set_option maxHeartbeats 1600000 in
set_option maxRecDepth 100000 in
theorem ps_cmdS48 (c : PC) (L : List Dcl) (ws : List Wd) (i : Nat) (s : PS) (vo vr : Value) (u : Bs) (o1 o2 o3 : Int) (W : World) (hx : CX c L ws i s vo vr W) (hwi : ws[i]'hx.i = (48 :: u, o1, o2, o3))  :
    Calls Tryz.prog 34 #[.pointer (some ⟨c.B, 0, none⟩), .map (some c.kb)] W (PPost c ((i : Int)) (scalarQ L s (48 :: u, o1, o2, o3) 48 u)) := by
  have hsz : (bsB (48 :: u)).size = (48 :: u : Bs).length := bsB_size _
  have hul : (48 :: u : Bs).length ≤ 140737488351232 := by have := hx.t _ (List.getElem_mem hx.i); rwa [hwi] at this
  simp only [List.length_cons] at hsz hul
  have hge1 : (0 : Int) < ((bsB (48 :: u)).size : Int) := by omega
  have hix := bsB_at0 48 u
  obtain ⟨b, o, e1, g0, g1, g2, g3⟩ := (hx.s.below hx.h.b).wds hx.i
  rw [hwi] at g0 g1 g2 g3
  dsimp only at g0 g1 g2 g3
  have p0 := hx.h.row.cell (j := 0) rfl
  have p1 := hx.h.row.cell (j := 1) rfl
  rw [hx.n, e1] at p0
  have n0 := World.new_ne W _ p0
  have n1 := World.new_ne W _ g0
  have hal : Below W.heap.size W (W.alloc (.cells #[.string (bsB (48 :: u)), .int .i64 o1, .int .i64 o2, .int .i64 o3] 39)).drew := ((Below.refl _ _).alloc (Nat.le_refl _) _).drew
  have HBK := Lib.hid (show (W.alloc (.cells #[.string (bsB (48 :: u)), .int .i64 o1, .int .i64 o2, .int .i64 o3] 39)).drew.heap[W.heap.size]? = _ from heap_alloc_new W (.cells #[.string (bsB (48 :: u)), .int .i64 o1, .int .i64 o2, .int .i64 o3] 39))
  have H1 := Lib.hid (hx.h.later hal)
  have hi1 : (0 : Int) ≤ (i : Int) := by omega
  have hi2 : (i : Int) < (ws.length : Int) := by have := hx.i; omega
  have HX := Lib.hid hx
  clear hal e1 hwi hsz
  go_enter Tryz.func34, Tryz.ntmps34
  go_upto_region 0 with fail
  go_region_held3 (fun w' => w'.cell? ⟨c.B, 0, none⟩ = some (.slice (some ⟨b, o, none⟩) ws.length c.wc) ∧ w'.cell? ⟨c.B, 1, none⟩ = some (.int .i64 (i : Int)) ∧ w'.cell? ⟨b, o + i * 4, none⟩ = some (.string (bsB (48 :: u))) ∧ w'.cell? ⟨b, o + i * 4 + 1, none⟩ = some (.int .i64 o1) ∧ w'.cell? ⟨b, o + i * 4 + 2, none⟩ = some (.int .i64 o2) ∧ w'.cell? ⟨b, o + i * 4 + 3, none⟩ = some (.int .i64 o3))
    (first | exact ⟨p0, p1, g0, g1, g2, g3⟩ | go_keep) (fail)
  clear p0 p1 g0 g1 g2 g3 n0 n1 hi1 hi2 hx
  generalize (W.alloc (.cells #[.string (bsB (48 :: u)), .int .i64 o1, .int .i64 o2, .int .i64 o3] 39)).drew = w1 at *
  have x0 := (own_block HBK.out).cell (j := 0) rfl
  have x1 := (own_block HBK.out).cell (j := 1) rfl
  have x2 := (own_block HBK.out).cell (j := 2) rfl
  have x3 := (own_block HBK.out).cell (j := 3) rfl
  have hk : True := trivial
  go_wp2_with fail
  refine (ps_scalar c L i s vo vr 48 u o1 o2 o3 _ H1.out HX.out.F (HX.out.g.below H1.out.b) HX.out.l1 HX.out.l2 (by omega)).mono ?_
  rintro e w9 ⟨rfl, vo9, vr9, h9⟩
  have H9 := Lib.hid h9
  clear h9
  go_wp2_with fail
  go_end0
  exact ⟨rfl, _, _, H9.out⟩
set_option maxHeartbeats 1600000 in
set_option maxRecDepth 100000 in
theorem ps_cmdS49 (c : PC) (L : List Dcl) (ws : List Wd) (i : Nat) (s : PS) (vo vr : Value) (u : Bs) (o1 o2 o3 : Int) (W : World) (hx : CX c L ws i s vo vr W) (hwi : ws[i]'hx.i = (49 :: u, o1, o2, o3))  :
    Calls Tryz.prog 34 #[.pointer (some ⟨c.B, 0, none⟩), .map (some c.kb)] W (PPost c ((i : Int)) (scalarQ L s (49 :: u, o1, o2, o3) 49 u)) := by
  have hsz : (bsB (49 :: u)).size = (49 :: u : Bs).length := bsB_size _
  have hul : (49 :: u : Bs).length ≤ 140737488351232 := by have := hx.t _ (List.getElem_mem hx.i); rwa [hwi] at this
  simp only [List.length_cons] at hsz hul
  have hge1 : (0 : Int) < ((bsB (49 :: u)).size : Int) := by omega
  have hix := bsB_at0 49 u
  obtain ⟨b, o, e1, g0, g1, g2, g3⟩ := (hx.s.below hx.h.b).wds hx.i
  rw [hwi] at g0 g1 g2 g3
  dsimp only at g0 g1 g2 g3
  have p0 := hx.h.row.cell (j := 0) rfl
  have p1 := hx.h.row.cell (j := 1) rfl
  rw [hx.n, e1] at p0
  have n0 := World.new_ne W _ p0
  have n1 := World.new_ne W _ g0
  have hal : Below W.heap.size W (W.alloc (.cells #[.string (bsB (49 :: u)), .int .i64 o1, .int .i64 o2, .int .i64 o3] 39)).drew := ((Below.refl _ _).alloc (Nat.le_refl _) _).drew
  have HBK := Lib.hid (show (W.alloc (.cells #[.string (bsB (49 :: u)), .int .i64 o1, .int .i64 o2, .int .i64 o3] 39)).drew.heap[W.heap.size]? = _ from heap_alloc_new W (.cells #[.string (bsB (49 :: u)), .int .i64 o1, .int .i64 o2, .int .i64 o3] 39))
  have H1 := Lib.hid (hx.h.later hal)
  have hi1 : (0 : Int) ≤ (i : Int) := by omega
  have hi2 : (i : Int) < (ws.length : Int) := by have := hx.i; omega
  have HX := Lib.hid hx
  clear hal e1 hwi hsz
  go_enter Tryz.func34, Tryz.ntmps34
  go_upto_region 0 with fail
  go_region_held3 (fun w' => w'.cell? ⟨c.B, 0, none⟩ = some (.slice (some ⟨b, o, none⟩) ws.length c.wc) ∧ w'.cell? ⟨c.B, 1, none⟩ = some (.int .i64 (i : Int)) ∧ w'.cell? ⟨b, o + i * 4, none⟩ = some (.string (bsB (49 :: u))) ∧ w'.cell? ⟨b, o + i * 4 + 1, none⟩ = some (.int .i64 o1) ∧ w'.cell? ⟨b, o + i * 4 + 2, none⟩ = some (.int .i64 o2) ∧ w'.cell? ⟨b, o + i * 4 + 3, none⟩ = some (.int .i64 o3))
    (first | exact ⟨p0, p1, g0, g1, g2, g3⟩ | go_keep) (fail)
  clear p0 p1 g0 g1 g2 g3 n0 n1 hi1 hi2 hx
  generalize (W.alloc (.cells #[.string (bsB (49 :: u)), .int .i64 o1, .int .i64 o2, .int .i64 o3] 39)).drew = w1 at *
  have x0 := (own_block HBK.out).cell (j := 0) rfl
  have x1 := (own_block HBK.out).cell (j := 1) rfl
  have x2 := (own_block HBK.out).cell (j := 2) rfl
  have x3 := (own_block HBK.out).cell (j := 3) rfl
  have hk : True := trivial
  go_wp2_with fail
  refine (ps_scalar c L i s vo vr 49 u o1 o2 o3 _ H1.out HX.out.F (HX.out.g.below H1.out.b) HX.out.l1 HX.out.l2 (by omega)).mono ?_
  rintro e w9 ⟨rfl, vo9, vr9, h9⟩
  have H9 := Lib.hid h9
  clear h9
  go_wp2_with fail
  go_end0
  exact ⟨rfl, _, _, H9.out⟩
set_option maxHeartbeats 1600000 in
set_option maxRecDepth 100000 in
theorem ps_cmdS120 (c : PC) (L : List Dcl) (ws : List Wd) (i : Nat) (s : PS) (vo vr : Value) (u : Bs) (o1 o2 o3 : Int) (W : World) (hx : CX c L ws i s vo vr W) (hwi : ws[i]'hx.i = (120 :: u, o1, o2, o3))  :
    Calls Tryz.prog 34 #[.pointer (some ⟨c.B, 0, none⟩), .map (some c.kb)] W (PPost c ((i : Int)) (scalarQ L s (120 :: u, o1, o2, o3) 120 u)) := by
  have hsz : (bsB (120 :: u)).size = (120 :: u : Bs).length := bsB_size _
  have hul : (120 :: u : Bs).length ≤ 140737488351232 := by have := hx.t _ (List.getElem_mem hx.i); rwa [hwi] at this
  simp only [List.length_cons] at hsz hul
  have hge1 : (0 : Int) < ((bsB (120 :: u)).size : Int) := by omega
  have hix := bsB_at0 120 u
  obtain ⟨b, o, e1, g0, g1, g2, g3⟩ := (hx.s.below hx.h.b).wds hx.i
  rw [hwi] at g0 g1 g2 g3
  dsimp only at g0 g1 g2 g3
  have p0 := hx.h.row.cell (j := 0) rfl
  have p1 := hx.h.row.cell (j := 1) rfl
  rw [hx.n, e1] at p0
  have n0 := World.new_ne W _ p0
  have n1 := World.new_ne W _ g0
  have hal : Below W.heap.size W (W.alloc (.cells #[.string (bsB (120 :: u)), .int .i64 o1, .int .i64 o2, .int .i64 o3] 39)).drew := ((Below.refl _ _).alloc (Nat.le_refl _) _).drew
  have HBK := Lib.hid (show (W.alloc (.cells #[.string (bsB (120 :: u)), .int .i64 o1, .int .i64 o2, .int .i64 o3] 39)).drew.heap[W.heap.size]? = _ from heap_alloc_new W (.cells #[.string (bsB (120 :: u)), .int .i64 o1, .int .i64 o2, .int .i64 o3] 39))
  have H1 := Lib.hid (hx.h.later hal)
  have hi1 : (0 : Int) ≤ (i : Int) := by omega
  have hi2 : (i : Int) < (ws.length : Int) := by have := hx.i; omega
  have HX := Lib.hid hx
  clear hal e1 hwi hsz
  go_enter Tryz.func34, Tryz.ntmps34
  go_upto_region 0 with fail
  go_region_held3 (fun w' => w'.cell? ⟨c.B, 0, none⟩ = some (.slice (some ⟨b, o, none⟩) ws.length c.wc) ∧ w'.cell? ⟨c.B, 1, none⟩ = some (.int .i64 (i : Int)) ∧ w'.cell? ⟨b, o + i * 4, none⟩ = some (.string (bsB (120 :: u))) ∧ w'.cell? ⟨b, o + i * 4 + 1, none⟩ = some (.int .i64 o1) ∧ w'.cell? ⟨b, o + i * 4 + 2, none⟩ = some (.int .i64 o2) ∧ w'.cell? ⟨b, o + i * 4 + 3, none⟩ = some (.int .i64 o3))
    (first | exact ⟨p0, p1, g0, g1, g2, g3⟩ | go_keep) (fail)
  clear p0 p1 g0 g1 g2 g3 n0 n1 hi1 hi2 hx
  generalize (W.alloc (.cells #[.string (bsB (120 :: u)), .int .i64 o1, .int .i64 o2, .int .i64 o3] 39)).drew = w1 at *
  have x0 := (own_block HBK.out).cell (j := 0) rfl
  have x1 := (own_block HBK.out).cell (j := 1) rfl
  have x2 := (own_block HBK.out).cell (j := 2) rfl
  have x3 := (own_block HBK.out).cell (j := 3) rfl
  have hk : True := trivial
  go_wp2_with fail
  refine (ps_scalar c L i s vo vr 120 u o1 o2 o3 _ H1.out HX.out.F (HX.out.g.below H1.out.b) HX.out.l1 HX.out.l2 (by omega)).mono ?_
  rintro e w9 ⟨rfl, vo9, vr9, h9⟩
  have H9 := Lib.hid h9
  clear h9
  go_wp2_with fail
  go_end0
  exact ⟨rfl, _, _, H9.out⟩
set_option maxHeartbeats 1600000 in
set_option maxRecDepth 100000 in
theorem ps_cmdS122 (c : PC) (L : List Dcl) (ws : List Wd) (i : Nat) (s : PS) (vo vr : Value) (u : Bs) (o1 o2 o3 : Int) (W : World) (hx : CX c L ws i s vo vr W) (hwi : ws[i]'hx.i = (122 :: u, o1, o2, o3))  :
    Calls Tryz.prog 34 #[.pointer (some ⟨c.B, 0, none⟩), .map (some c.kb)] W (PPost c ((i : Int)) (scalarQ L s (122 :: u, o1, o2, o3) 122 u)) := by
  have hsz : (bsB (122 :: u)).size = (122 :: u : Bs).length := bsB_size _
  have hul : (122 :: u : Bs).length ≤ 140737488351232 := by have := hx.t _ (List.getElem_mem hx.i); rwa [hwi] at this
  simp only [List.length_cons] at hsz hul
  have hge1 : (0 : Int) < ((bsB (122 :: u)).size : Int) := by omega
  have hix := bsB_at0 122 u
  obtain ⟨b, o, e1, g0, g1, g2, g3⟩ := (hx.s.below hx.h.b).wds hx.i
  rw [hwi] at g0 g1 g2 g3
  dsimp only at g0 g1 g2 g3
  have p0 := hx.h.row.cell (j := 0) rfl
  have p1 := hx.h.row.cell (j := 1) rfl
  rw [hx.n, e1] at p0
  have n0 := World.new_ne W _ p0
  have n1 := World.new_ne W _ g0
  have hal : Below W.heap.size W (W.alloc (.cells #[.string (bsB (122 :: u)), .int .i64 o1, .int .i64 o2, .int .i64 o3] 39)).drew := ((Below.refl _ _).alloc (Nat.le_refl _) _).drew
  have HBK := Lib.hid (show (W.alloc (.cells #[.string (bsB (122 :: u)), .int .i64 o1, .int .i64 o2, .int .i64 o3] 39)).drew.heap[W.heap.size]? = _ from heap_alloc_new W (.cells #[.string (bsB (122 :: u)), .int .i64 o1, .int .i64 o2, .int .i64 o3] 39))
  have H1 := Lib.hid (hx.h.later hal)
  have hi1 : (0 : Int) ≤ (i : Int) := by omega
  have hi2 : (i : Int) < (ws.length : Int) := by have := hx.i; omega
  have HX := Lib.hid hx
  clear hal e1 hwi hsz
  go_enter Tryz.func34, Tryz.ntmps34
  go_upto_region 0 with fail
  go_region_held3 (fun w' => w'.cell? ⟨c.B, 0, none⟩ = some (.slice (some ⟨b, o, none⟩) ws.length c.wc) ∧ w'.cell? ⟨c.B, 1, none⟩ = some (.int .i64 (i : Int)) ∧ w'.cell? ⟨b, o + i * 4, none⟩ = some (.string (bsB (122 :: u))) ∧ w'.cell? ⟨b, o + i * 4 + 1, none⟩ = some (.int .i64 o1) ∧ w'.cell? ⟨b, o + i * 4 + 2, none⟩ = some (.int .i64 o2) ∧ w'.cell? ⟨b, o + i * 4 + 3, none⟩ = some (.int .i64 o3))
    (first | exact ⟨p0, p1, g0, g1, g2, g3⟩ | go_keep) (fail)
  clear p0 p1 g0 g1 g2 g3 n0 n1 hi1 hi2 hx
  generalize (W.alloc (.cells #[.string (bsB (122 :: u)), .int .i64 o1, .int .i64 o2, .int .i64 o3] 39)).drew = w1 at *
  have x0 := (own_block HBK.out).cell (j := 0) rfl
  have x1 := (own_block HBK.out).cell (j := 1) rfl
  have x2 := (own_block HBK.out).cell (j := 2) rfl
  have x3 := (own_block HBK.out).cell (j := 3) rfl
  have hk : True := trivial
  go_wp2_with fail
  refine (ps_scalar c L i s vo vr 122 u o1 o2 o3 _ H1.out HX.out.F (HX.out.g.below H1.out.b) HX.out.l1 HX.out.l2 (by omega)).mono ?_
  rintro e w9 ⟨rfl, vo9, vr9, h9⟩
  have H9 := Lib.hid h9
  clear h9
  go_wp2_with fail
  go_end0
  exact ⟨rfl, _, _, H9.out⟩
set_option maxHeartbeats 1600000 in
set_option maxRecDepth 100000 in
theorem ps_cmdS88 (c : PC) (L : List Dcl) (ws : List Wd) (i : Nat) (s : PS) (vo vr : Value) (u : Bs) (o1 o2 o3 : Int) (W : World) (hx : CX c L ws i s vo vr W) (hwi : ws[i]'hx.i = (88 :: u, o1, o2, o3))  :
    Calls Tryz.prog 34 #[.pointer (some ⟨c.B, 0, none⟩), .map (some c.kb)] W (PPost c ((i : Int)) (scalarQ L s (88 :: u, o1, o2, o3) 88 u)) := by
  have hsz : (bsB (88 :: u)).size = (88 :: u : Bs).length := bsB_size _
  have hul : (88 :: u : Bs).length ≤ 140737488351232 := by have := hx.t _ (List.getElem_mem hx.i); rwa [hwi] at this
  simp only [List.length_cons] at hsz hul
  have hge1 : (0 : Int) < ((bsB (88 :: u)).size : Int) := by omega
  have hix := bsB_at0 88 u
  obtain ⟨b, o, e1, g0, g1, g2, g3⟩ := (hx.s.below hx.h.b).wds hx.i
  rw [hwi] at g0 g1 g2 g3
  dsimp only at g0 g1 g2 g3
  have p0 := hx.h.row.cell (j := 0) rfl
  have p1 := hx.h.row.cell (j := 1) rfl
  rw [hx.n, e1] at p0
  have n0 := World.new_ne W _ p0
  have n1 := World.new_ne W _ g0
  have hal : Below W.heap.size W (W.alloc (.cells #[.string (bsB (88 :: u)), .int .i64 o1, .int .i64 o2, .int .i64 o3] 39)).drew := ((Below.refl _ _).alloc (Nat.le_refl _) _).drew
  have HBK := Lib.hid (show (W.alloc (.cells #[.string (bsB (88 :: u)), .int .i64 o1, .int .i64 o2, .int .i64 o3] 39)).drew.heap[W.heap.size]? = _ from heap_alloc_new W (.cells #[.string (bsB (88 :: u)), .int .i64 o1, .int .i64 o2, .int .i64 o3] 39))
  have H1 := Lib.hid (hx.h.later hal)
  have hi1 : (0 : Int) ≤ (i : Int) := by omega
  have hi2 : (i : Int) < (ws.length : Int) := by have := hx.i; omega
  have HX := Lib.hid hx
  clear hal e1 hwi hsz
  go_enter Tryz.func34, Tryz.ntmps34
  go_upto_region 0 with fail
  go_region_held3 (fun w' => w'.cell? ⟨c.B, 0, none⟩ = some (.slice (some ⟨b, o, none⟩) ws.length c.wc) ∧ w'.cell? ⟨c.B, 1, none⟩ = some (.int .i64 (i : Int)) ∧ w'.cell? ⟨b, o + i * 4, none⟩ = some (.string (bsB (88 :: u))) ∧ w'.cell? ⟨b, o + i * 4 + 1, none⟩ = some (.int .i64 o1) ∧ w'.cell? ⟨b, o + i * 4 + 2, none⟩ = some (.int .i64 o2) ∧ w'.cell? ⟨b, o + i * 4 + 3, none⟩ = some (.int .i64 o3))
    (first | exact ⟨p0, p1, g0, g1, g2, g3⟩ | go_keep) (fail)
  clear p0 p1 g0 g1 g2 g3 n0 n1 hi1 hi2 hx
  generalize (W.alloc (.cells #[.string (bsB (88 :: u)), .int .i64 o1, .int .i64 o2, .int .i64 o3] 39)).drew = w1 at *
  have x0 := (own_block HBK.out).cell (j := 0) rfl
  have x1 := (own_block HBK.out).cell (j := 1) rfl
  have x2 := (own_block HBK.out).cell (j := 2) rfl
  have x3 := (own_block HBK.out).cell (j := 3) rfl
  have hk : True := trivial
  go_wp2_with fail
  refine (ps_scalar c L i s vo vr 88 u o1 o2 o3 _ H1.out HX.out.F (HX.out.g.below H1.out.b) HX.out.l1 HX.out.l2 (by omega)).mono ?_
  rintro e w9 ⟨rfl, vo9, vr9, h9⟩
  have H9 := Lib.hid h9
  clear h9
  go_wp2_with fail
  go_end0
  exact ⟨rfl, _, _, H9.out⟩
set_option maxHeartbeats 1600000 in
set_option maxRecDepth 100000 in
theorem ps_cmdS90 (c : PC) (L : List Dcl) (ws : List Wd) (i : Nat) (s : PS) (vo vr : Value) (u : Bs) (o1 o2 o3 : Int) (W : World) (hx : CX c L ws i s vo vr W) (hwi : ws[i]'hx.i = (90 :: u, o1, o2, o3))  :
    Calls Tryz.prog 34 #[.pointer (some ⟨c.B, 0, none⟩), .map (some c.kb)] W (PPost c ((i : Int)) (scalarQ L s (90 :: u, o1, o2, o3) 90 u)) := by
  have hsz : (bsB (90 :: u)).size = (90 :: u : Bs).length := bsB_size _
  have hul : (90 :: u : Bs).length ≤ 140737488351232 := by have := hx.t _ (List.getElem_mem hx.i); rwa [hwi] at this
  simp only [List.length_cons] at hsz hul
  have hge1 : (0 : Int) < ((bsB (90 :: u)).size : Int) := by omega
  have hix := bsB_at0 90 u
  obtain ⟨b, o, e1, g0, g1, g2, g3⟩ := (hx.s.below hx.h.b).wds hx.i
  rw [hwi] at g0 g1 g2 g3
  dsimp only at g0 g1 g2 g3
  have p0 := hx.h.row.cell (j := 0) rfl
  have p1 := hx.h.row.cell (j := 1) rfl
  rw [hx.n, e1] at p0
  have n0 := World.new_ne W _ p0
  have n1 := World.new_ne W _ g0
  have hal : Below W.heap.size W (W.alloc (.cells #[.string (bsB (90 :: u)), .int .i64 o1, .int .i64 o2, .int .i64 o3] 39)).drew := ((Below.refl _ _).alloc (Nat.le_refl _) _).drew
  have HBK := Lib.hid (show (W.alloc (.cells #[.string (bsB (90 :: u)), .int .i64 o1, .int .i64 o2, .int .i64 o3] 39)).drew.heap[W.heap.size]? = _ from heap_alloc_new W (.cells #[.string (bsB (90 :: u)), .int .i64 o1, .int .i64 o2, .int .i64 o3] 39))
  have H1 := Lib.hid (hx.h.later hal)
  have hi1 : (0 : Int) ≤ (i : Int) := by omega
  have hi2 : (i : Int) < (ws.length : Int) := by have := hx.i; omega
  have HX := Lib.hid hx
  clear hal e1 hwi hsz
  go_enter Tryz.func34, Tryz.ntmps34
  go_upto_region 0 with fail
  go_region_held3 (fun w' => w'.cell? ⟨c.B, 0, none⟩ = some (.slice (some ⟨b, o, none⟩) ws.length c.wc) ∧ w'.cell? ⟨c.B, 1, none⟩ = some (.int .i64 (i : Int)) ∧ w'.cell? ⟨b, o + i * 4, none⟩ = some (.string (bsB (90 :: u))) ∧ w'.cell? ⟨b, o + i * 4 + 1, none⟩ = some (.int .i64 o1) ∧ w'.cell? ⟨b, o + i * 4 + 2, none⟩ = some (.int .i64 o2) ∧ w'.cell? ⟨b, o + i * 4 + 3, none⟩ = some (.int .i64 o3))
    (first | exact ⟨p0, p1, g0, g1, g2, g3⟩ | go_keep) (fail)
  clear p0 p1 g0 g1 g2 g3 n0 n1 hi1 hi2 hx
  generalize (W.alloc (.cells #[.string (bsB (90 :: u)), .int .i64 o1, .int .i64 o2, .int .i64 o3] 39)).drew = w1 at *
  have x0 := (own_block HBK.out).cell (j := 0) rfl
  have x1 := (own_block HBK.out).cell (j := 1) rfl
  have x2 := (own_block HBK.out).cell (j := 2) rfl
  have x3 := (own_block HBK.out).cell (j := 3) rfl
  have hk : True := trivial
  go_wp2_with fail
  refine (ps_scalar c L i s vo vr 90 u o1 o2 o3 _ H1.out HX.out.F (HX.out.g.below H1.out.b) HX.out.l1 HX.out.l2 (by omega)).mono ?_
  rintro e w9 ⟨rfl, vo9, vr9, h9⟩
  have H9 := Lib.hid h9
  clear h9
  go_wp2_with fail
  go_end0
  exact ⟨rfl, _, _, H9.out⟩
set_option maxHeartbeats 1600000 in
set_option maxRecDepth 100000 in
theorem ps_cmdE115 (c : PC) (L : List Dcl) (ws : List Wd) (i : Nat) (s : PS) (vo vr : Value) (u : Bs) (o1 o2 o3 : Int) (W : World) (hx : CX c L ws i s vo vr W) (hwi : ws[i]'hx.i = (115 :: u, o1, o2, o3)) (hend : ws.length ≤ i + 1) :
    Calls Tryz.prog 34 #[.pointer (some ⟨c.B, 0, none⟩), .map (some c.kb)] W (PPost c ((i : Int)) (skipP s (115 :: u, o1, o2, o3))) := by
  have hsz : (bsB (115 :: u)).size = (115 :: u : Bs).length := bsB_size _
  have hul : (115 :: u : Bs).length ≤ 140737488351232 := by have := hx.t _ (List.getElem_mem hx.i); rwa [hwi] at this
  simp only [List.length_cons] at hsz hul
  have hge1 : (0 : Int) < ((bsB (115 :: u)).size : Int) := by omega
  have hix := bsB_at0 115 u
  obtain ⟨b, o, e1, g0, g1, g2, g3⟩ := (hx.s.below hx.h.b).wds hx.i
  rw [hwi] at g0 g1 g2 g3
  dsimp only at g0 g1 g2 g3
  have p0 := hx.h.row.cell (j := 0) rfl
  have p1 := hx.h.row.cell (j := 1) rfl
  rw [hx.n, e1] at p0
  have n0 := World.new_ne W _ p0
  have n1 := World.new_ne W _ g0
  have hal : Below W.heap.size W (W.alloc (.cells #[.string (bsB (115 :: u)), .int .i64 o1, .int .i64 o2, .int .i64 o3] 39)).drew := ((Below.refl _ _).alloc (Nat.le_refl _) _).drew
  have HBK := Lib.hid (show (W.alloc (.cells #[.string (bsB (115 :: u)), .int .i64 o1, .int .i64 o2, .int .i64 o3] 39)).drew.heap[W.heap.size]? = _ from heap_alloc_new W (.cells #[.string (bsB (115 :: u)), .int .i64 o1, .int .i64 o2, .int .i64 o3] 39))
  have H1 := Lib.hid (hx.h.later hal)
  have hi1 : (0 : Int) ≤ (i : Int) := by omega
  have hi2 : (i : Int) < (ws.length : Int) := by have := hx.i; omega
  have HX := Lib.hid hx
  clear hal e1 hwi hsz
  go_enter Tryz.func34, Tryz.ntmps34
  go_upto_region 0 with fail
  go_region_held3 (fun w' => w'.cell? ⟨c.B, 0, none⟩ = some (.slice (some ⟨b, o, none⟩) ws.length c.wc) ∧ w'.cell? ⟨c.B, 1, none⟩ = some (.int .i64 (i : Int)) ∧ w'.cell? ⟨b, o + i * 4, none⟩ = some (.string (bsB (115 :: u))) ∧ w'.cell? ⟨b, o + i * 4 + 1, none⟩ = some (.int .i64 o1) ∧ w'.cell? ⟨b, o + i * 4 + 2, none⟩ = some (.int .i64 o2) ∧ w'.cell? ⟨b, o + i * 4 + 3, none⟩ = some (.int .i64 o3))
    (first | exact ⟨p0, p1, g0, g1, g2, g3⟩ | go_keep) (fail)
  clear p0 p1 g0 g1 g2 g3 n0 n1 hi1 hi2 hx
  generalize (W.alloc (.cells #[.string (bsB (115 :: u)), .int .i64 o1, .int .i64 o2, .int .i64 o3] 39)).drew = w1 at *
  have x0 := (own_block HBK.out).cell (j := 0) rfl
  have x1 := (own_block HBK.out).cell (j := 1) rfl
  have x2 := (own_block HBK.out).cell (j := 2) rfl
  have x3 := (own_block HBK.out).cell (j := 3) rfl
  have hk : True := trivial
  go_wp2_with fail
  refine (ps_vectorE c i s vo vr (115 :: u, o1, o2, o3) 2 ws.length _ H1.out HX.out.l1 HX.out.n hend (by have := HX.out.i; have := HX.out.wl; omega)).mono ?_
  rintro e w9 ⟨rfl, vo9, vr9, h9⟩
  have H9 := Lib.hid h9
  clear h9
  go_wp2_with fail
  go_end0
  exact ⟨rfl, _, _, H9.out⟩
set_option maxHeartbeats 1600000 in
set_option maxRecDepth 100000 in
theorem ps_cmdV115 (c : PC) (L : List Dcl) (ws : List Wd) (i : Nat) (s : PS) (vo vr : Value) (u : Bs) (o1 o2 o3 : Int) (W : World) (hx : CX c L ws i s vo vr W) (hwi : ws[i]'hx.i = (115 :: u, o1, o2, o3)) (hlt : i + 1 < ws.length) :
    Calls Tryz.prog 34 #[.pointer (some ⟨c.B, 0, none⟩), .map (some c.kb)] W (PPost c ((i : Int) + 1) (changeQ s (115 :: u, o1, o2, o3) ws[i + 1] (knF L ws[i + 1].1) ws[i + 1].1 u [2])) := by
  have hsz : (bsB (115 :: u)).size = (115 :: u : Bs).length := bsB_size _
  have hul : (115 :: u : Bs).length ≤ 140737488351232 := by have := hx.t _ (List.getElem_mem hx.i); rwa [hwi] at this
  simp only [List.length_cons] at hsz hul
  have hge1 : (0 : Int) < ((bsB (115 :: u)).size : Int) := by omega
  have hix := bsB_at0 115 u
  obtain ⟨b, o, e1, g0, g1, g2, g3⟩ := (hx.s.below hx.h.b).wds hx.i
  rw [hwi] at g0 g1 g2 g3
  dsimp only at g0 g1 g2 g3
  have p0 := hx.h.row.cell (j := 0) rfl
  have p1 := hx.h.row.cell (j := 1) rfl
  rw [hx.n, e1] at p0
  have n0 := World.new_ne W _ p0
  have n1 := World.new_ne W _ g0
  have hal : Below W.heap.size W (W.alloc (.cells #[.string (bsB (115 :: u)), .int .i64 o1, .int .i64 o2, .int .i64 o3] 39)).drew := ((Below.refl _ _).alloc (Nat.le_refl _) _).drew
  have HBK := Lib.hid (show (W.alloc (.cells #[.string (bsB (115 :: u)), .int .i64 o1, .int .i64 o2, .int .i64 o3] 39)).drew.heap[W.heap.size]? = _ from heap_alloc_new W (.cells #[.string (bsB (115 :: u)), .int .i64 o1, .int .i64 o2, .int .i64 o3] 39))
  have H1 := Lib.hid (hx.h.later hal)
  have hi1 : (0 : Int) ≤ (i : Int) := by omega
  have hi2 : (i : Int) < (ws.length : Int) := by have := hx.i; omega
  have HX := Lib.hid hx
  clear hal e1 hwi hsz
  go_enter Tryz.func34, Tryz.ntmps34
  go_upto_region 0 with fail
  go_region_held3 (fun w' => w'.cell? ⟨c.B, 0, none⟩ = some (.slice (some ⟨b, o, none⟩) ws.length c.wc) ∧ w'.cell? ⟨c.B, 1, none⟩ = some (.int .i64 (i : Int)) ∧ w'.cell? ⟨b, o + i * 4, none⟩ = some (.string (bsB (115 :: u))) ∧ w'.cell? ⟨b, o + i * 4 + 1, none⟩ = some (.int .i64 o1) ∧ w'.cell? ⟨b, o + i * 4 + 2, none⟩ = some (.int .i64 o2) ∧ w'.cell? ⟨b, o + i * 4 + 3, none⟩ = some (.int .i64 o3))
    (first | exact ⟨p0, p1, g0, g1, g2, g3⟩ | go_keep) (fail)
  clear p0 p1 g0 g1 g2 g3 n0 n1 hi1 hi2 hx
  generalize (W.alloc (.cells #[.string (bsB (115 :: u)), .int .i64 o1, .int .i64 o2, .int .i64 o3] 39)).drew = w1 at *
  have x0 := (own_block HBK.out).cell (j := 0) rfl
  have x1 := (own_block HBK.out).cell (j := 1) rfl
  have x2 := (own_block HBK.out).cell (j := 2) rfl
  have x3 := (own_block HBK.out).cell (j := 3) rfl
  have hk : True := trivial
  go_wp2_with fail
  refine (ps_vector c L ws i s vo vr 115 u o1 o2 o3 2 _ H1.out HX.out.F HX.out.g HX.out.l1 HX.out.l2 (by omega) HX.out.n hlt HX.out.wl HX.out.s (HX.out.t _ (List.getElem_mem hlt))).mono ?_
  rintro e w9 ⟨rfl, vo9, vr9, h9⟩
  have H9 := Lib.hid h9
  clear h9
  go_wp2_with fail
  go_end0
  exact ⟨rfl, _, _, H9.out⟩
set_option maxHeartbeats 1600000 in
set_option maxRecDepth 100000 in
theorem ps_cmdE83 (c : PC) (L : List Dcl) (ws : List Wd) (i : Nat) (s : PS) (vo vr : Value) (u : Bs) (o1 o2 o3 : Int) (W : World) (hx : CX c L ws i s vo vr W) (hwi : ws[i]'hx.i = (83 :: u, o1, o2, o3)) (hend : ws.length ≤ i + 1) :
    Calls Tryz.prog 34 #[.pointer (some ⟨c.B, 0, none⟩), .map (some c.kb)] W (PPost c ((i : Int)) (skipP s (83 :: u, o1, o2, o3))) := by
  have hsz : (bsB (83 :: u)).size = (83 :: u : Bs).length := bsB_size _
  have hul : (83 :: u : Bs).length ≤ 140737488351232 := by have := hx.t _ (List.getElem_mem hx.i); rwa [hwi] at this
  simp only [List.length_cons] at hsz hul
  have hge1 : (0 : Int) < ((bsB (83 :: u)).size : Int) := by omega
  have hix := bsB_at0 83 u
  obtain ⟨b, o, e1, g0, g1, g2, g3⟩ := (hx.s.below hx.h.b).wds hx.i
  rw [hwi] at g0 g1 g2 g3
  dsimp only at g0 g1 g2 g3
  have p0 := hx.h.row.cell (j := 0) rfl
  have p1 := hx.h.row.cell (j := 1) rfl
  rw [hx.n, e1] at p0
  have n0 := World.new_ne W _ p0
  have n1 := World.new_ne W _ g0
  have hal : Below W.heap.size W (W.alloc (.cells #[.string (bsB (83 :: u)), .int .i64 o1, .int .i64 o2, .int .i64 o3] 39)).drew := ((Below.refl _ _).alloc (Nat.le_refl _) _).drew
  have HBK := Lib.hid (show (W.alloc (.cells #[.string (bsB (83 :: u)), .int .i64 o1, .int .i64 o2, .int .i64 o3] 39)).drew.heap[W.heap.size]? = _ from heap_alloc_new W (.cells #[.string (bsB (83 :: u)), .int .i64 o1, .int .i64 o2, .int .i64 o3] 39))
  have H1 := Lib.hid (hx.h.later hal)
  have hi1 : (0 : Int) ≤ (i : Int) := by omega
  have hi2 : (i : Int) < (ws.length : Int) := by have := hx.i; omega
  have HX := Lib.hid hx
  clear hal e1 hwi hsz
  go_enter Tryz.func34, Tryz.ntmps34
  go_upto_region 0 with fail
  go_region_held3 (fun w' => w'.cell? ⟨c.B, 0, none⟩ = some (.slice (some ⟨b, o, none⟩) ws.length c.wc) ∧ w'.cell? ⟨c.B, 1, none⟩ = some (.int .i64 (i : Int)) ∧ w'.cell? ⟨b, o + i * 4, none⟩ = some (.string (bsB (83 :: u))) ∧ w'.cell? ⟨b, o + i * 4 + 1, none⟩ = some (.int .i64 o1) ∧ w'.cell? ⟨b, o + i * 4 + 2, none⟩ = some (.int .i64 o2) ∧ w'.cell? ⟨b, o + i * 4 + 3, none⟩ = some (.int .i64 o3))
    (first | exact ⟨p0, p1, g0, g1, g2, g3⟩ | go_keep) (fail)
  clear p0 p1 g0 g1 g2 g3 n0 n1 hi1 hi2 hx
  generalize (W.alloc (.cells #[.string (bsB (83 :: u)), .int .i64 o1, .int .i64 o2, .int .i64 o3] 39)).drew = w1 at *
  have x0 := (own_block HBK.out).cell (j := 0) rfl
  have x1 := (own_block HBK.out).cell (j := 1) rfl
  have x2 := (own_block HBK.out).cell (j := 2) rfl
  have x3 := (own_block HBK.out).cell (j := 3) rfl
  have hk : True := trivial
  go_wp2_with fail
  refine (ps_vectorE c i s vo vr (83 :: u, o1, o2, o3) 2 ws.length _ H1.out HX.out.l1 HX.out.n hend (by have := HX.out.i; have := HX.out.wl; omega)).mono ?_
  rintro e w9 ⟨rfl, vo9, vr9, h9⟩
  have H9 := Lib.hid h9
  clear h9
  go_wp2_with fail
  go_end0
  exact ⟨rfl, _, _, H9.out⟩
set_option maxHeartbeats 1600000 in
set_option maxRecDepth 100000 in
theorem ps_cmdV83 (c : PC) (L : List Dcl) (ws : List Wd) (i : Nat) (s : PS) (vo vr : Value) (u : Bs) (o1 o2 o3 : Int) (W : World) (hx : CX c L ws i s vo vr W) (hwi : ws[i]'hx.i = (83 :: u, o1, o2, o3)) (hlt : i + 1 < ws.length) :
    Calls Tryz.prog 34 #[.pointer (some ⟨c.B, 0, none⟩), .map (some c.kb)] W (PPost c ((i : Int) + 1) (changeQ s (83 :: u, o1, o2, o3) ws[i + 1] (knF L ws[i + 1].1) ws[i + 1].1 u [2])) := by
  have hsz : (bsB (83 :: u)).size = (83 :: u : Bs).length := bsB_size _
  have hul : (83 :: u : Bs).length ≤ 140737488351232 := by have := hx.t _ (List.getElem_mem hx.i); rwa [hwi] at this
  simp only [List.length_cons] at hsz hul
  have hge1 : (0 : Int) < ((bsB (83 :: u)).size : Int) := by omega
  have hix := bsB_at0 83 u
  obtain ⟨b, o, e1, g0, g1, g2, g3⟩ := (hx.s.below hx.h.b).wds hx.i
  rw [hwi] at g0 g1 g2 g3
  dsimp only at g0 g1 g2 g3
  have p0 := hx.h.row.cell (j := 0) rfl
  have p1 := hx.h.row.cell (j := 1) rfl
  rw [hx.n, e1] at p0
  have n0 := World.new_ne W _ p0
  have n1 := World.new_ne W _ g0
  have hal : Below W.heap.size W (W.alloc (.cells #[.string (bsB (83 :: u)), .int .i64 o1, .int .i64 o2, .int .i64 o3] 39)).drew := ((Below.refl _ _).alloc (Nat.le_refl _) _).drew
  have HBK := Lib.hid (show (W.alloc (.cells #[.string (bsB (83 :: u)), .int .i64 o1, .int .i64 o2, .int .i64 o3] 39)).drew.heap[W.heap.size]? = _ from heap_alloc_new W (.cells #[.string (bsB (83 :: u)), .int .i64 o1, .int .i64 o2, .int .i64 o3] 39))
  have H1 := Lib.hid (hx.h.later hal)
  have hi1 : (0 : Int) ≤ (i : Int) := by omega
  have hi2 : (i : Int) < (ws.length : Int) := by have := hx.i; omega
  have HX := Lib.hid hx
  clear hal e1 hwi hsz
  go_enter Tryz.func34, Tryz.ntmps34
  go_upto_region 0 with fail
  go_region_held3 (fun w' => w'.cell? ⟨c.B, 0, none⟩ = some (.slice (some ⟨b, o, none⟩) ws.length c.wc) ∧ w'.cell? ⟨c.B, 1, none⟩ = some (.int .i64 (i : Int)) ∧ w'.cell? ⟨b, o + i * 4, none⟩ = some (.string (bsB (83 :: u))) ∧ w'.cell? ⟨b, o + i * 4 + 1, none⟩ = some (.int .i64 o1) ∧ w'.cell? ⟨b, o + i * 4 + 2, none⟩ = some (.int .i64 o2) ∧ w'.cell? ⟨b, o + i * 4 + 3, none⟩ = some (.int .i64 o3))
    (first | exact ⟨p0, p1, g0, g1, g2, g3⟩ | go_keep) (fail)
  clear p0 p1 g0 g1 g2 g3 n0 n1 hi1 hi2 hx
  generalize (W.alloc (.cells #[.string (bsB (83 :: u)), .int .i64 o1, .int .i64 o2, .int .i64 o3] 39)).drew = w1 at *
  have x0 := (own_block HBK.out).cell (j := 0) rfl
  have x1 := (own_block HBK.out).cell (j := 1) rfl
  have x2 := (own_block HBK.out).cell (j := 2) rfl
  have x3 := (own_block HBK.out).cell (j := 3) rfl
  have hk : True := trivial
  go_wp2_with fail
  refine (ps_vector c L ws i s vo vr 83 u o1 o2 o3 2 _ H1.out HX.out.F HX.out.g HX.out.l1 HX.out.l2 (by omega) HX.out.n hlt HX.out.wl HX.out.s (HX.out.t _ (List.getElem_mem hlt))).mono ?_
  rintro e w9 ⟨rfl, vo9, vr9, h9⟩
  have H9 := Lib.hid h9
  clear h9
  go_wp2_with fail
  go_end0
  exact ⟨rfl, _, _, H9.out⟩
set_option maxHeartbeats 1600000 in
set_option maxRecDepth 100000 in
theorem ps_cmdE114 (c : PC) (L : List Dcl) (ws : List Wd) (i : Nat) (s : PS) (vo vr : Value) (u : Bs) (o1 o2 o3 : Int) (W : World) (hx : CX c L ws i s vo vr W) (hwi : ws[i]'hx.i = (114 :: u, o1, o2, o3)) (hend : ws.length ≤ i + 1) :
    Calls Tryz.prog 34 #[.pointer (some ⟨c.B, 0, none⟩), .map (some c.kb)] W (PPost c ((i : Int)) (skipP s (114 :: u, o1, o2, o3))) := by
  have hsz : (bsB (114 :: u)).size = (114 :: u : Bs).length := bsB_size _
  have hul : (114 :: u : Bs).length ≤ 140737488351232 := by have := hx.t _ (List.getElem_mem hx.i); rwa [hwi] at this
  simp only [List.length_cons] at hsz hul
  have hge1 : (0 : Int) < ((bsB (114 :: u)).size : Int) := by omega
  have hix := bsB_at0 114 u
  obtain ⟨b, o, e1, g0, g1, g2, g3⟩ := (hx.s.below hx.h.b).wds hx.i
  rw [hwi] at g0 g1 g2 g3
  dsimp only at g0 g1 g2 g3
  have p0 := hx.h.row.cell (j := 0) rfl
  have p1 := hx.h.row.cell (j := 1) rfl
  rw [hx.n, e1] at p0
  have n0 := World.new_ne W _ p0
  have n1 := World.new_ne W _ g0
  have hal : Below W.heap.size W (W.alloc (.cells #[.string (bsB (114 :: u)), .int .i64 o1, .int .i64 o2, .int .i64 o3] 39)).drew := ((Below.refl _ _).alloc (Nat.le_refl _) _).drew
  have HBK := Lib.hid (show (W.alloc (.cells #[.string (bsB (114 :: u)), .int .i64 o1, .int .i64 o2, .int .i64 o3] 39)).drew.heap[W.heap.size]? = _ from heap_alloc_new W (.cells #[.string (bsB (114 :: u)), .int .i64 o1, .int .i64 o2, .int .i64 o3] 39))
  have H1 := Lib.hid (hx.h.later hal)
  have hi1 : (0 : Int) ≤ (i : Int) := by omega
  have hi2 : (i : Int) < (ws.length : Int) := by have := hx.i; omega
  have HX := Lib.hid hx
  clear hal e1 hwi hsz
  go_enter Tryz.func34, Tryz.ntmps34
  go_upto_region 0 with fail
  go_region_held3 (fun w' => w'.cell? ⟨c.B, 0, none⟩ = some (.slice (some ⟨b, o, none⟩) ws.length c.wc) ∧ w'.cell? ⟨c.B, 1, none⟩ = some (.int .i64 (i : Int)) ∧ w'.cell? ⟨b, o + i * 4, none⟩ = some (.string (bsB (114 :: u))) ∧ w'.cell? ⟨b, o + i * 4 + 1, none⟩ = some (.int .i64 o1) ∧ w'.cell? ⟨b, o + i * 4 + 2, none⟩ = some (.int .i64 o2) ∧ w'.cell? ⟨b, o + i * 4 + 3, none⟩ = some (.int .i64 o3))
    (first | exact ⟨p0, p1, g0, g1, g2, g3⟩ | go_keep) (fail)
  clear p0 p1 g0 g1 g2 g3 n0 n1 hi1 hi2 hx
  generalize (W.alloc (.cells #[.string (bsB (114 :: u)), .int .i64 o1, .int .i64 o2, .int .i64 o3] 39)).drew = w1 at *
  have x0 := (own_block HBK.out).cell (j := 0) rfl
  have x1 := (own_block HBK.out).cell (j := 1) rfl
  have x2 := (own_block HBK.out).cell (j := 2) rfl
  have x3 := (own_block HBK.out).cell (j := 3) rfl
  have hk : True := trivial
  go_wp2_with fail
  refine (ps_vectorE c i s vo vr (114 :: u, o1, o2, o3) 1 ws.length _ H1.out HX.out.l1 HX.out.n hend (by have := HX.out.i; have := HX.out.wl; omega)).mono ?_
  rintro e w9 ⟨rfl, vo9, vr9, h9⟩
  have H9 := Lib.hid h9
  clear h9
  go_wp2_with fail
  go_end0
  exact ⟨rfl, _, _, H9.out⟩
set_option maxHeartbeats 1600000 in
set_option maxRecDepth 100000 in
theorem ps_cmdV114 (c : PC) (L : List Dcl) (ws : List Wd) (i : Nat) (s : PS) (vo vr : Value) (u : Bs) (o1 o2 o3 : Int) (W : World) (hx : CX c L ws i s vo vr W) (hwi : ws[i]'hx.i = (114 :: u, o1, o2, o3)) (hlt : i + 1 < ws.length) :
    Calls Tryz.prog 34 #[.pointer (some ⟨c.B, 0, none⟩), .map (some c.kb)] W (PPost c ((i : Int) + 1) (changeQ s (114 :: u, o1, o2, o3) ws[i + 1] (knF L ws[i + 1].1) ws[i + 1].1 u [1])) := by
  have hsz : (bsB (114 :: u)).size = (114 :: u : Bs).length := bsB_size _
  have hul : (114 :: u : Bs).length ≤ 140737488351232 := by have := hx.t _ (List.getElem_mem hx.i); rwa [hwi] at this
  simp only [List.length_cons] at hsz hul
  have hge1 : (0 : Int) < ((bsB (114 :: u)).size : Int) := by omega
  have hix := bsB_at0 114 u
  obtain ⟨b, o, e1, g0, g1, g2, g3⟩ := (hx.s.below hx.h.b).wds hx.i
  rw [hwi] at g0 g1 g2 g3
  dsimp only at g0 g1 g2 g3
  have p0 := hx.h.row.cell (j := 0) rfl
  have p1 := hx.h.row.cell (j := 1) rfl
  rw [hx.n, e1] at p0
  have n0 := World.new_ne W _ p0
  have n1 := World.new_ne W _ g0
  have hal : Below W.heap.size W (W.alloc (.cells #[.string (bsB (114 :: u)), .int .i64 o1, .int .i64 o2, .int .i64 o3] 39)).drew := ((Below.refl _ _).alloc (Nat.le_refl _) _).drew
  have HBK := Lib.hid (show (W.alloc (.cells #[.string (bsB (114 :: u)), .int .i64 o1, .int .i64 o2, .int .i64 o3] 39)).drew.heap[W.heap.size]? = _ from heap_alloc_new W (.cells #[.string (bsB (114 :: u)), .int .i64 o1, .int .i64 o2, .int .i64 o3] 39))
  have H1 := Lib.hid (hx.h.later hal)
  have hi1 : (0 : Int) ≤ (i : Int) := by omega
  have hi2 : (i : Int) < (ws.length : Int) := by have := hx.i; omega
  have HX := Lib.hid hx
  clear hal e1 hwi hsz
  go_enter Tryz.func34, Tryz.ntmps34
  go_upto_region 0 with fail
  go_region_held3 (fun w' => w'.cell? ⟨c.B, 0, none⟩ = some (.slice (some ⟨b, o, none⟩) ws.length c.wc) ∧ w'.cell? ⟨c.B, 1, none⟩ = some (.int .i64 (i : Int)) ∧ w'.cell? ⟨b, o + i * 4, none⟩ = some (.string (bsB (114 :: u))) ∧ w'.cell? ⟨b, o + i * 4 + 1, none⟩ = some (.int .i64 o1) ∧ w'.cell? ⟨b, o + i * 4 + 2, none⟩ = some (.int .i64 o2) ∧ w'.cell? ⟨b, o + i * 4 + 3, none⟩ = some (.int .i64 o3))
    (first | exact ⟨p0, p1, g0, g1, g2, g3⟩ | go_keep) (fail)
  clear p0 p1 g0 g1 g2 g3 n0 n1 hi1 hi2 hx
  generalize (W.alloc (.cells #[.string (bsB (114 :: u)), .int .i64 o1, .int .i64 o2, .int .i64 o3] 39)).drew = w1 at *
  have x0 := (own_block HBK.out).cell (j := 0) rfl
  have x1 := (own_block HBK.out).cell (j := 1) rfl
  have x2 := (own_block HBK.out).cell (j := 2) rfl
  have x3 := (own_block HBK.out).cell (j := 3) rfl
  have hk : True := trivial
  go_wp2_with fail
  refine (ps_vector c L ws i s vo vr 114 u o1 o2 o3 1 _ H1.out HX.out.F HX.out.g HX.out.l1 HX.out.l2 (by omega) HX.out.n hlt HX.out.wl HX.out.s (HX.out.t _ (List.getElem_mem hlt))).mono ?_
  rintro e w9 ⟨rfl, vo9, vr9, h9⟩
  have H9 := Lib.hid h9
  clear h9
  go_wp2_with fail
  go_end0
  exact ⟨rfl, _, _, H9.out⟩
set_option maxHeartbeats 1600000 in
set_option maxRecDepth 100000 in
theorem ps_cmdE82 (c : PC) (L : List Dcl) (ws : List Wd) (i : Nat) (s : PS) (vo vr : Value) (u : Bs) (o1 o2 o3 : Int) (W : World) (hx : CX c L ws i s vo vr W) (hwi : ws[i]'hx.i = (82 :: u, o1, o2, o3)) (hend : ws.length ≤ i + 1) :
    Calls Tryz.prog 34 #[.pointer (some ⟨c.B, 0, none⟩), .map (some c.kb)] W (PPost c ((i : Int)) (skipP s (82 :: u, o1, o2, o3))) := by
  have hsz : (bsB (82 :: u)).size = (82 :: u : Bs).length := bsB_size _
  have hul : (82 :: u : Bs).length ≤ 140737488351232 := by have := hx.t _ (List.getElem_mem hx.i); rwa [hwi] at this
  simp only [List.length_cons] at hsz hul
  have hge1 : (0 : Int) < ((bsB (82 :: u)).size : Int) := by omega
  have hix := bsB_at0 82 u
  obtain ⟨b, o, e1, g0, g1, g2, g3⟩ := (hx.s.below hx.h.b).wds hx.i
  rw [hwi] at g0 g1 g2 g3
  dsimp only at g0 g1 g2 g3
  have p0 := hx.h.row.cell (j := 0) rfl
  have p1 := hx.h.row.cell (j := 1) rfl
  rw [hx.n, e1] at p0
  have n0 := World.new_ne W _ p0
  have n1 := World.new_ne W _ g0
  have hal : Below W.heap.size W (W.alloc (.cells #[.string (bsB (82 :: u)), .int .i64 o1, .int .i64 o2, .int .i64 o3] 39)).drew := ((Below.refl _ _).alloc (Nat.le_refl _) _).drew
  have HBK := Lib.hid (show (W.alloc (.cells #[.string (bsB (82 :: u)), .int .i64 o1, .int .i64 o2, .int .i64 o3] 39)).drew.heap[W.heap.size]? = _ from heap_alloc_new W (.cells #[.string (bsB (82 :: u)), .int .i64 o1, .int .i64 o2, .int .i64 o3] 39))
  have H1 := Lib.hid (hx.h.later hal)
  have hi1 : (0 : Int) ≤ (i : Int) := by omega
  have hi2 : (i : Int) < (ws.length : Int) := by have := hx.i; omega
  have HX := Lib.hid hx
  clear hal e1 hwi hsz
  go_enter Tryz.func34, Tryz.ntmps34
  go_upto_region 0 with fail
  go_region_held3 (fun w' => w'.cell? ⟨c.B, 0, none⟩ = some (.slice (some ⟨b, o, none⟩) ws.length c.wc) ∧ w'.cell? ⟨c.B, 1, none⟩ = some (.int .i64 (i : Int)) ∧ w'.cell? ⟨b, o + i * 4, none⟩ = some (.string (bsB (82 :: u))) ∧ w'.cell? ⟨b, o + i * 4 + 1, none⟩ = some (.int .i64 o1) ∧ w'.cell? ⟨b, o + i * 4 + 2, none⟩ = some (.int .i64 o2) ∧ w'.cell? ⟨b, o + i * 4 + 3, none⟩ = some (.int .i64 o3))
    (first | exact ⟨p0, p1, g0, g1, g2, g3⟩ | go_keep) (fail)
  clear p0 p1 g0 g1 g2 g3 n0 n1 hi1 hi2 hx
  generalize (W.alloc (.cells #[.string (bsB (82 :: u)), .int .i64 o1, .int .i64 o2, .int .i64 o3] 39)).drew = w1 at *
  have x0 := (own_block HBK.out).cell (j := 0) rfl
  have x1 := (own_block HBK.out).cell (j := 1) rfl
  have x2 := (own_block HBK.out).cell (j := 2) rfl
  have x3 := (own_block HBK.out).cell (j := 3) rfl
  have hk : True := trivial
  go_wp2_with fail
  refine (ps_vectorE c i s vo vr (82 :: u, o1, o2, o3) 1 ws.length _ H1.out HX.out.l1 HX.out.n hend (by have := HX.out.i; have := HX.out.wl; omega)).mono ?_
  rintro e w9 ⟨rfl, vo9, vr9, h9⟩
  have H9 := Lib.hid h9
  clear h9
  go_wp2_with fail
  go_end0
  exact ⟨rfl, _, _, H9.out⟩
set_option maxHeartbeats 1600000 in
set_option maxRecDepth 100000 in
theorem ps_cmdV82 (c : PC) (L : List Dcl) (ws : List Wd) (i : Nat) (s : PS) (vo vr : Value) (u : Bs) (o1 o2 o3 : Int) (W : World) (hx : CX c L ws i s vo vr W) (hwi : ws[i]'hx.i = (82 :: u, o1, o2, o3)) (hlt : i + 1 < ws.length) :
    Calls Tryz.prog 34 #[.pointer (some ⟨c.B, 0, none⟩), .map (some c.kb)] W (PPost c ((i : Int) + 1) (changeQ s (82 :: u, o1, o2, o3) ws[i + 1] (knF L ws[i + 1].1) ws[i + 1].1 u [1])) := by
  have hsz : (bsB (82 :: u)).size = (82 :: u : Bs).length := bsB_size _
  have hul : (82 :: u : Bs).length ≤ 140737488351232 := by have := hx.t _ (List.getElem_mem hx.i); rwa [hwi] at this
  simp only [List.length_cons] at hsz hul
  have hge1 : (0 : Int) < ((bsB (82 :: u)).size : Int) := by omega
  have hix := bsB_at0 82 u
  obtain ⟨b, o, e1, g0, g1, g2, g3⟩ := (hx.s.below hx.h.b).wds hx.i
  rw [hwi] at g0 g1 g2 g3
  dsimp only at g0 g1 g2 g3
  have p0 := hx.h.row.cell (j := 0) rfl
  have p1 := hx.h.row.cell (j := 1) rfl
  rw [hx.n, e1] at p0
  have n0 := World.new_ne W _ p0
  have n1 := World.new_ne W _ g0
  have hal : Below W.heap.size W (W.alloc (.cells #[.string (bsB (82 :: u)), .int .i64 o1, .int .i64 o2, .int .i64 o3] 39)).drew := ((Below.refl _ _).alloc (Nat.le_refl _) _).drew
  have HBK := Lib.hid (show (W.alloc (.cells #[.string (bsB (82 :: u)), .int .i64 o1, .int .i64 o2, .int .i64 o3] 39)).drew.heap[W.heap.size]? = _ from heap_alloc_new W (.cells #[.string (bsB (82 :: u)), .int .i64 o1, .int .i64 o2, .int .i64 o3] 39))
  have H1 := Lib.hid (hx.h.later hal)
  have hi1 : (0 : Int) ≤ (i : Int) := by omega
  have hi2 : (i : Int) < (ws.length : Int) := by have := hx.i; omega
  have HX := Lib.hid hx
  clear hal e1 hwi hsz
  go_enter Tryz.func34, Tryz.ntmps34
  go_upto_region 0 with fail
  go_region_held3 (fun w' => w'.cell? ⟨c.B, 0, none⟩ = some (.slice (some ⟨b, o, none⟩) ws.length c.wc) ∧ w'.cell? ⟨c.B, 1, none⟩ = some (.int .i64 (i : Int)) ∧ w'.cell? ⟨b, o + i * 4, none⟩ = some (.string (bsB (82 :: u))) ∧ w'.cell? ⟨b, o + i * 4 + 1, none⟩ = some (.int .i64 o1) ∧ w'.cell? ⟨b, o + i * 4 + 2, none⟩ = some (.int .i64 o2) ∧ w'.cell? ⟨b, o + i * 4 + 3, none⟩ = some (.int .i64 o3))
    (first | exact ⟨p0, p1, g0, g1, g2, g3⟩ | go_keep) (fail)
  clear p0 p1 g0 g1 g2 g3 n0 n1 hi1 hi2 hx
  generalize (W.alloc (.cells #[.string (bsB (82 :: u)), .int .i64 o1, .int .i64 o2, .int .i64 o3] 39)).drew = w1 at *
  have x0 := (own_block HBK.out).cell (j := 0) rfl
  have x1 := (own_block HBK.out).cell (j := 1) rfl
  have x2 := (own_block HBK.out).cell (j := 2) rfl
  have x3 := (own_block HBK.out).cell (j := 3) rfl
  have hk : True := trivial
  go_wp2_with fail
  refine (ps_vector c L ws i s vo vr 82 u o1 o2 o3 1 _ H1.out HX.out.F HX.out.g HX.out.l1 HX.out.l2 (by omega) HX.out.n hlt HX.out.wl HX.out.s (HX.out.t _ (List.getElem_mem hlt))).mono ?_
  rintro e w9 ⟨rfl, vo9, vr9, h9⟩
  have H9 := Lib.hid h9
  clear h9
  go_wp2_with fail
  go_end0
  exact ⟨rfl, _, _, H9.out⟩
set_option maxHeartbeats 1600000 in
set_option maxRecDepth 100000 in
theorem ps_cmdE98 (c : PC) (L : List Dcl) (ws : List Wd) (i : Nat) (s : PS) (vo vr : Value) (u : Bs) (o1 o2 o3 : Int) (W : World) (hx : CX c L ws i s vo vr W) (hwi : ws[i]'hx.i = (98 :: u, o1, o2, o3)) (hend : ws.length ≤ i + 1) :
    Calls Tryz.prog 34 #[.pointer (some ⟨c.B, 0, none⟩), .map (some c.kb)] W (PPost c ((i : Int)) (skipP s (98 :: u, o1, o2, o3))) := by
  have hsz : (bsB (98 :: u)).size = (98 :: u : Bs).length := bsB_size _
  have hul : (98 :: u : Bs).length ≤ 140737488351232 := by have := hx.t _ (List.getElem_mem hx.i); rwa [hwi] at this
  simp only [List.length_cons] at hsz hul
  have hge1 : (0 : Int) < ((bsB (98 :: u)).size : Int) := by omega
  have hix := bsB_at0 98 u
  obtain ⟨b, o, e1, g0, g1, g2, g3⟩ := (hx.s.below hx.h.b).wds hx.i
  rw [hwi] at g0 g1 g2 g3
  dsimp only at g0 g1 g2 g3
  have p0 := hx.h.row.cell (j := 0) rfl
  have p1 := hx.h.row.cell (j := 1) rfl
  rw [hx.n, e1] at p0
  have n0 := World.new_ne W _ p0
  have n1 := World.new_ne W _ g0
  have hal : Below W.heap.size W (W.alloc (.cells #[.string (bsB (98 :: u)), .int .i64 o1, .int .i64 o2, .int .i64 o3] 39)).drew := ((Below.refl _ _).alloc (Nat.le_refl _) _).drew
  have HBK := Lib.hid (show (W.alloc (.cells #[.string (bsB (98 :: u)), .int .i64 o1, .int .i64 o2, .int .i64 o3] 39)).drew.heap[W.heap.size]? = _ from heap_alloc_new W (.cells #[.string (bsB (98 :: u)), .int .i64 o1, .int .i64 o2, .int .i64 o3] 39))
  have H1 := Lib.hid (hx.h.later hal)
  have hi1 : (0 : Int) ≤ (i : Int) := by omega
  have hi2 : (i : Int) < (ws.length : Int) := by have := hx.i; omega
  have HX := Lib.hid hx
  clear hal e1 hwi hsz
  go_enter Tryz.func34, Tryz.ntmps34
  go_upto_region 0 with fail
  go_region_held3 (fun w' => w'.cell? ⟨c.B, 0, none⟩ = some (.slice (some ⟨b, o, none⟩) ws.length c.wc) ∧ w'.cell? ⟨c.B, 1, none⟩ = some (.int .i64 (i : Int)) ∧ w'.cell? ⟨b, o + i * 4, none⟩ = some (.string (bsB (98 :: u))) ∧ w'.cell? ⟨b, o + i * 4 + 1, none⟩ = some (.int .i64 o1) ∧ w'.cell? ⟨b, o + i * 4 + 2, none⟩ = some (.int .i64 o2) ∧ w'.cell? ⟨b, o + i * 4 + 3, none⟩ = some (.int .i64 o3))
    (first | exact ⟨p0, p1, g0, g1, g2, g3⟩ | go_keep) (fail)
  clear p0 p1 g0 g1 g2 g3 n0 n1 hi1 hi2 hx
  generalize (W.alloc (.cells #[.string (bsB (98 :: u)), .int .i64 o1, .int .i64 o2, .int .i64 o3] 39)).drew = w1 at *
  have x0 := (own_block HBK.out).cell (j := 0) rfl
  have x1 := (own_block HBK.out).cell (j := 1) rfl
  have x2 := (own_block HBK.out).cell (j := 2) rfl
  have x3 := (own_block HBK.out).cell (j := 3) rfl
  have hk : True := trivial
  go_wp2_with fail
  refine (ps_vectorE c i s vo vr (98 :: u, o1, o2, o3) 0 ws.length _ H1.out HX.out.l1 HX.out.n hend (by have := HX.out.i; have := HX.out.wl; omega)).mono ?_
  rintro e w9 ⟨rfl, vo9, vr9, h9⟩
  have H9 := Lib.hid h9
  clear h9
  go_wp2_with fail
  go_end0
  exact ⟨rfl, _, _, H9.out⟩
set_option maxHeartbeats 1600000 in
set_option maxRecDepth 100000 in
theorem ps_cmdV98 (c : PC) (L : List Dcl) (ws : List Wd) (i : Nat) (s : PS) (vo vr : Value) (u : Bs) (o1 o2 o3 : Int) (W : World) (hx : CX c L ws i s vo vr W) (hwi : ws[i]'hx.i = (98 :: u, o1, o2, o3)) (hlt : i + 1 < ws.length) :
    Calls Tryz.prog 34 #[.pointer (some ⟨c.B, 0, none⟩), .map (some c.kb)] W (PPost c ((i : Int) + 1) (changeQ s (98 :: u, o1, o2, o3) ws[i + 1] (knF L ws[i + 1].1) ws[i + 1].1 u [0])) := by
  have hsz : (bsB (98 :: u)).size = (98 :: u : Bs).length := bsB_size _
  have hul : (98 :: u : Bs).length ≤ 140737488351232 := by have := hx.t _ (List.getElem_mem hx.i); rwa [hwi] at this
  simp only [List.length_cons] at hsz hul
  have hge1 : (0 : Int) < ((bsB (98 :: u)).size : Int) := by omega
  have hix := bsB_at0 98 u
  obtain ⟨b, o, e1, g0, g1, g2, g3⟩ := (hx.s.below hx.h.b).wds hx.i
  rw [hwi] at g0 g1 g2 g3
  dsimp only at g0 g1 g2 g3
  have p0 := hx.h.row.cell (j := 0) rfl
  have p1 := hx.h.row.cell (j := 1) rfl
  rw [hx.n, e1] at p0
  have n0 := World.new_ne W _ p0
  have n1 := World.new_ne W _ g0
  have hal : Below W.heap.size W (W.alloc (.cells #[.string (bsB (98 :: u)), .int .i64 o1, .int .i64 o2, .int .i64 o3] 39)).drew := ((Below.refl _ _).alloc (Nat.le_refl _) _).drew
  have HBK := Lib.hid (show (W.alloc (.cells #[.string (bsB (98 :: u)), .int .i64 o1, .int .i64 o2, .int .i64 o3] 39)).drew.heap[W.heap.size]? = _ from heap_alloc_new W (.cells #[.string (bsB (98 :: u)), .int .i64 o1, .int .i64 o2, .int .i64 o3] 39))
  have H1 := Lib.hid (hx.h.later hal)
  have hi1 : (0 : Int) ≤ (i : Int) := by omega
  have hi2 : (i : Int) < (ws.length : Int) := by have := hx.i; omega
  have HX := Lib.hid hx
  clear hal e1 hwi hsz
  go_enter Tryz.func34, Tryz.ntmps34
  go_upto_region 0 with fail
  go_region_held3 (fun w' => w'.cell? ⟨c.B, 0, none⟩ = some (.slice (some ⟨b, o, none⟩) ws.length c.wc) ∧ w'.cell? ⟨c.B, 1, none⟩ = some (.int .i64 (i : Int)) ∧ w'.cell? ⟨b, o + i * 4, none⟩ = some (.string (bsB (98 :: u))) ∧ w'.cell? ⟨b, o + i * 4 + 1, none⟩ = some (.int .i64 o1) ∧ w'.cell? ⟨b, o + i * 4 + 2, none⟩ = some (.int .i64 o2) ∧ w'.cell? ⟨b, o + i * 4 + 3, none⟩ = some (.int .i64 o3))
    (first | exact ⟨p0, p1, g0, g1, g2, g3⟩ | go_keep) (fail)
  clear p0 p1 g0 g1 g2 g3 n0 n1 hi1 hi2 hx
  generalize (W.alloc (.cells #[.string (bsB (98 :: u)), .int .i64 o1, .int .i64 o2, .int .i64 o3] 39)).drew = w1 at *
  have x0 := (own_block HBK.out).cell (j := 0) rfl
  have x1 := (own_block HBK.out).cell (j := 1) rfl
  have x2 := (own_block HBK.out).cell (j := 2) rfl
  have x3 := (own_block HBK.out).cell (j := 3) rfl
  have hk : True := trivial
  go_wp2_with fail
  refine (ps_vector c L ws i s vo vr 98 u o1 o2 o3 0 _ H1.out HX.out.F HX.out.g HX.out.l1 HX.out.l2 (by omega) HX.out.n hlt HX.out.wl HX.out.s (HX.out.t _ (List.getElem_mem hlt))).mono ?_
  rintro e w9 ⟨rfl, vo9, vr9, h9⟩
  have H9 := Lib.hid h9
  clear h9
  go_wp2_with fail
  go_end0
  exact ⟨rfl, _, _, H9.out⟩
set_option maxHeartbeats 1600000 in
set_option maxRecDepth 100000 in
theorem ps_cmdE66 (c : PC) (L : List Dcl) (ws : List Wd) (i : Nat) (s : PS) (vo vr : Value) (u : Bs) (o1 o2 o3 : Int) (W : World) (hx : CX c L ws i s vo vr W) (hwi : ws[i]'hx.i = (66 :: u, o1, o2, o3)) (hend : ws.length ≤ i + 1) :
    Calls Tryz.prog 34 #[.pointer (some ⟨c.B, 0, none⟩), .map (some c.kb)] W (PPost c ((i : Int)) (skipP s (66 :: u, o1, o2, o3))) := by
  have hsz : (bsB (66 :: u)).size = (66 :: u : Bs).length := bsB_size _
  have hul : (66 :: u : Bs).length ≤ 140737488351232 := by have := hx.t _ (List.getElem_mem hx.i); rwa [hwi] at this
  simp only [List.length_cons] at hsz hul
  have hge1 : (0 : Int) < ((bsB (66 :: u)).size : Int) := by omega
  have hix := bsB_at0 66 u
  obtain ⟨b, o, e1, g0, g1, g2, g3⟩ := (hx.s.below hx.h.b).wds hx.i
  rw [hwi] at g0 g1 g2 g3
  dsimp only at g0 g1 g2 g3
  have p0 := hx.h.row.cell (j := 0) rfl
  have p1 := hx.h.row.cell (j := 1) rfl
  rw [hx.n, e1] at p0
  have n0 := World.new_ne W _ p0
  have n1 := World.new_ne W _ g0
  have hal : Below W.heap.size W (W.alloc (.cells #[.string (bsB (66 :: u)), .int .i64 o1, .int .i64 o2, .int .i64 o3] 39)).drew := ((Below.refl _ _).alloc (Nat.le_refl _) _).drew
  have HBK := Lib.hid (show (W.alloc (.cells #[.string (bsB (66 :: u)), .int .i64 o1, .int .i64 o2, .int .i64 o3] 39)).drew.heap[W.heap.size]? = _ from heap_alloc_new W (.cells #[.string (bsB (66 :: u)), .int .i64 o1, .int .i64 o2, .int .i64 o3] 39))
  have H1 := Lib.hid (hx.h.later hal)
  have hi1 : (0 : Int) ≤ (i : Int) := by omega
  have hi2 : (i : Int) < (ws.length : Int) := by have := hx.i; omega
  have HX := Lib.hid hx
  clear hal e1 hwi hsz
  go_enter Tryz.func34, Tryz.ntmps34
  go_upto_region 0 with fail
  go_region_held3 (fun w' => w'.cell? ⟨c.B, 0, none⟩ = some (.slice (some ⟨b, o, none⟩) ws.length c.wc) ∧ w'.cell? ⟨c.B, 1, none⟩ = some (.int .i64 (i : Int)) ∧ w'.cell? ⟨b, o + i * 4, none⟩ = some (.string (bsB (66 :: u))) ∧ w'.cell? ⟨b, o + i * 4 + 1, none⟩ = some (.int .i64 o1) ∧ w'.cell? ⟨b, o + i * 4 + 2, none⟩ = some (.int .i64 o2) ∧ w'.cell? ⟨b, o + i * 4 + 3, none⟩ = some (.int .i64 o3))
    (first | exact ⟨p0, p1, g0, g1, g2, g3⟩ | go_keep) (fail)
  clear p0 p1 g0 g1 g2 g3 n0 n1 hi1 hi2 hx
  generalize (W.alloc (.cells #[.string (bsB (66 :: u)), .int .i64 o1, .int .i64 o2, .int .i64 o3] 39)).drew = w1 at *
  have x0 := (own_block HBK.out).cell (j := 0) rfl
  have x1 := (own_block HBK.out).cell (j := 1) rfl
  have x2 := (own_block HBK.out).cell (j := 2) rfl
  have x3 := (own_block HBK.out).cell (j := 3) rfl
  have hk : True := trivial
  go_wp2_with fail
  refine (ps_vectorE c i s vo vr (66 :: u, o1, o2, o3) 0 ws.length _ H1.out HX.out.l1 HX.out.n hend (by have := HX.out.i; have := HX.out.wl; omega)).mono ?_
  rintro e w9 ⟨rfl, vo9, vr9, h9⟩
  have H9 := Lib.hid h9
  clear h9
  go_wp2_with fail
  go_end0
  exact ⟨rfl, _, _, H9.out⟩
set_option maxHeartbeats 1600000 in
set_option maxRecDepth 100000 in
theorem ps_cmdV66 (c : PC) (L : List Dcl) (ws : List Wd) (i : Nat) (s : PS) (vo vr : Value) (u : Bs) (o1 o2 o3 : Int) (W : World) (hx : CX c L ws i s vo vr W) (hwi : ws[i]'hx.i = (66 :: u, o1, o2, o3)) (hlt : i + 1 < ws.length) :
    Calls Tryz.prog 34 #[.pointer (some ⟨c.B, 0, none⟩), .map (some c.kb)] W (PPost c ((i : Int) + 1) (changeQ s (66 :: u, o1, o2, o3) ws[i + 1] (knF L ws[i + 1].1) ws[i + 1].1 u [0])) := by
  have hsz : (bsB (66 :: u)).size = (66 :: u : Bs).length := bsB_size _
  have hul : (66 :: u : Bs).length ≤ 140737488351232 := by have := hx.t _ (List.getElem_mem hx.i); rwa [hwi] at this
  simp only [List.length_cons] at hsz hul
  have hge1 : (0 : Int) < ((bsB (66 :: u)).size : Int) := by omega
  have hix := bsB_at0 66 u
  obtain ⟨b, o, e1, g0, g1, g2, g3⟩ := (hx.s.below hx.h.b).wds hx.i
  rw [hwi] at g0 g1 g2 g3
  dsimp only at g0 g1 g2 g3
  have p0 := hx.h.row.cell (j := 0) rfl
  have p1 := hx.h.row.cell (j := 1) rfl
  rw [hx.n, e1] at p0
  have n0 := World.new_ne W _ p0
  have n1 := World.new_ne W _ g0
  have hal : Below W.heap.size W (W.alloc (.cells #[.string (bsB (66 :: u)), .int .i64 o1, .int .i64 o2, .int .i64 o3] 39)).drew := ((Below.refl _ _).alloc (Nat.le_refl _) _).drew
  have HBK := Lib.hid (show (W.alloc (.cells #[.string (bsB (66 :: u)), .int .i64 o1, .int .i64 o2, .int .i64 o3] 39)).drew.heap[W.heap.size]? = _ from heap_alloc_new W (.cells #[.string (bsB (66 :: u)), .int .i64 o1, .int .i64 o2, .int .i64 o3] 39))
  have H1 := Lib.hid (hx.h.later hal)
  have hi1 : (0 : Int) ≤ (i : Int) := by omega
  have hi2 : (i : Int) < (ws.length : Int) := by have := hx.i; omega
  have HX := Lib.hid hx
  clear hal e1 hwi hsz
  go_enter Tryz.func34, Tryz.ntmps34
  go_upto_region 0 with fail
  go_region_held3 (fun w' => w'.cell? ⟨c.B, 0, none⟩ = some (.slice (some ⟨b, o, none⟩) ws.length c.wc) ∧ w'.cell? ⟨c.B, 1, none⟩ = some (.int .i64 (i : Int)) ∧ w'.cell? ⟨b, o + i * 4, none⟩ = some (.string (bsB (66 :: u))) ∧ w'.cell? ⟨b, o + i * 4 + 1, none⟩ = some (.int .i64 o1) ∧ w'.cell? ⟨b, o + i * 4 + 2, none⟩ = some (.int .i64 o2) ∧ w'.cell? ⟨b, o + i * 4 + 3, none⟩ = some (.int .i64 o3))
    (first | exact ⟨p0, p1, g0, g1, g2, g3⟩ | go_keep) (fail)
  clear p0 p1 g0 g1 g2 g3 n0 n1 hi1 hi2 hx
  generalize (W.alloc (.cells #[.string (bsB (66 :: u)), .int .i64 o1, .int .i64 o2, .int .i64 o3] 39)).drew = w1 at *
  have x0 := (own_block HBK.out).cell (j := 0) rfl
  have x1 := (own_block HBK.out).cell (j := 1) rfl
  have x2 := (own_block HBK.out).cell (j := 2) rfl
  have x3 := (own_block HBK.out).cell (j := 3) rfl
  have hk : True := trivial
  go_wp2_with fail
  refine (ps_vector c L ws i s vo vr 66 u o1 o2 o3 0 _ H1.out HX.out.F HX.out.g HX.out.l1 HX.out.l2 (by omega) HX.out.n hlt HX.out.wl HX.out.s (HX.out.t _ (List.getElem_mem hlt))).mono ?_
  rintro e w9 ⟨rfl, vo9, vr9, h9⟩
  have H9 := Lib.hid h9
  clear h9
  go_wp2_with fail
  go_end0
  exact ⟨rfl, _, _, H9.out⟩
set_option maxHeartbeats 1600000 in
set_option maxRecDepth 100000 in
theorem ps_cmdKV (c : PC) (L : List Dcl) (ws : List Wd) (i : Nat) (s : PS) (vo vr : Value)  (o1 o2 o3 : Int) (W : World) (hx : CX c L ws i s vo vr W) (hwi : ws[i]'hx.i = (36 :: ([100, 117, 109, 112, 118, 97, 114, 115] : Bs), o1, o2, o3))  :
    Calls Tryz.prog 34 #[.pointer (some ⟨c.B, 0, none⟩), .map (some c.kb)] W (PPost c ((i : Int)) (dumpP s (36 :: [100, 117, 109, 112, 118, 97, 114, 115], o1, o2, o3))) := by
  have hsz : (bsB (36 :: ([100, 117, 109, 112, 118, 97, 114, 115] : Bs))).size = (36 :: ([100, 117, 109, 112, 118, 97, 114, 115] : Bs) : Bs).length := bsB_size _
  have hul : (36 :: ([100, 117, 109, 112, 118, 97, 114, 115] : Bs) : Bs).length ≤ 140737488351232 := by have := hx.t _ (List.getElem_mem hx.i); rwa [hwi] at this
  simp only [List.length_cons] at hsz hul
  have hge1 : (0 : Int) < ((bsB (36 :: ([100, 117, 109, 112, 118, 97, 114, 115] : Bs))).size : Int) := by omega
  have hix := bsB_at0 36 ([100, 117, 109, 112, 118, 97, 114, 115] : Bs)
  obtain ⟨b, o, e1, g0, g1, g2, g3⟩ := (hx.s.below hx.h.b).wds hx.i
  rw [hwi] at g0 g1 g2 g3
  dsimp only at g0 g1 g2 g3
  have p0 := hx.h.row.cell (j := 0) rfl
  have p1 := hx.h.row.cell (j := 1) rfl
  rw [hx.n, e1] at p0
  have n0 := World.new_ne W _ p0
  have n1 := World.new_ne W _ g0
  have hal : Below W.heap.size W (W.alloc (.cells #[.string (bsB (36 :: ([100, 117, 109, 112, 118, 97, 114, 115] : Bs))), .int .i64 o1, .int .i64 o2, .int .i64 o3] 39)).drew := ((Below.refl _ _).alloc (Nat.le_refl _) _).drew
  have HBK := Lib.hid (show (W.alloc (.cells #[.string (bsB (36 :: ([100, 117, 109, 112, 118, 97, 114, 115] : Bs))), .int .i64 o1, .int .i64 o2, .int .i64 o3] 39)).drew.heap[W.heap.size]? = _ from heap_alloc_new W (.cells #[.string (bsB (36 :: ([100, 117, 109, 112, 118, 97, 114, 115] : Bs))), .int .i64 o1, .int .i64 o2, .int .i64 o3] 39))
  have H1 := Lib.hid (hx.h.later hal)
  have hi1 : (0 : Int) ≤ (i : Int) := by omega
  have hi2 : (i : Int) < (ws.length : Int) := by have := hx.i; omega
  have HX := Lib.hid hx
  clear hal e1 hwi hsz
  go_enter Tryz.func34, Tryz.ntmps34
  go_upto_region 0 with fail
  go_region_held3 (fun w' => w'.cell? ⟨c.B, 0, none⟩ = some (.slice (some ⟨b, o, none⟩) ws.length c.wc) ∧ w'.cell? ⟨c.B, 1, none⟩ = some (.int .i64 (i : Int)) ∧ w'.cell? ⟨b, o + i * 4, none⟩ = some (.string (bsB (36 :: ([100, 117, 109, 112, 118, 97, 114, 115] : Bs)))) ∧ w'.cell? ⟨b, o + i * 4 + 1, none⟩ = some (.int .i64 o1) ∧ w'.cell? ⟨b, o + i * 4 + 2, none⟩ = some (.int .i64 o2) ∧ w'.cell? ⟨b, o + i * 4 + 3, none⟩ = some (.int .i64 o3))
    (first | exact ⟨p0, p1, g0, g1, g2, g3⟩ | go_keep) (fail)
  clear p0 p1 g0 g1 g2 g3 n0 n1 hi1 hi2 hx
  generalize (W.alloc (.cells #[.string (bsB (36 :: ([100, 117, 109, 112, 118, 97, 114, 115] : Bs))), .int .i64 o1, .int .i64 o2, .int .i64 o3] 39)).drew = w1 at *
  have x0 := (own_block HBK.out).cell (j := 0) rfl
  have x1 := (own_block HBK.out).cell (j := 1) rfl
  have x2 := (own_block HBK.out).cell (j := 2) rfl
  have x3 := (own_block HBK.out).cell (j := 3) rfl
  (have hlk := ps_kw H1.out HX.out.G (tx := 36 :: ([100, 117, 109, 112, 118, 97, 114, 115] : Bs)) hul; rw [show kwF c.B (36 :: ([100, 117, 109, 112, 118, 97, 114, 115] : Bs)) = some (mV 44 c.B) from rfl] at hlk; simp only [Option.getD_some, Option.isSome_some] at hlk)
  go_wp2_with fail
  refine (ps_dump c i s vo vr (36 :: [100, 117, 109, 112, 118, 97, 114, 115], o1, o2, o3) _ H1.out HX.out.l1 HX.out.l2).mono ?_
  rintro e w9 ⟨rfl, vo9, vr9, h9⟩
  have H9 := Lib.hid h9
  clear h9
  go_wp2_with fail
  go_end0
  exact ⟨rfl, _, _, H9.out⟩
set_option maxHeartbeats 1600000 in
set_option maxRecDepth 100000 in
theorem ps_cmdKA (c : PC) (L : List Dcl) (ws : List Wd) (i : Nat) (s : PS) (vo vr : Value)  (o1 o2 o3 : Int) (W : World) (hx : CX c L ws i s vo vr W) (hwi : ws[i]'hx.i = (36 :: ([100, 117, 109, 112, 97, 108, 108] : Bs), o1, o2, o3))  :
    Calls Tryz.prog 34 #[.pointer (some ⟨c.B, 0, none⟩), .map (some c.kb)] W (PPost c ((i : Int)) (dumpP s (36 :: [100, 117, 109, 112, 97, 108, 108], o1, o2, o3))) := by
  have hsz : (bsB (36 :: ([100, 117, 109, 112, 97, 108, 108] : Bs))).size = (36 :: ([100, 117, 109, 112, 97, 108, 108] : Bs) : Bs).length := bsB_size _
  have hul : (36 :: ([100, 117, 109, 112, 97, 108, 108] : Bs) : Bs).length ≤ 140737488351232 := by have := hx.t _ (List.getElem_mem hx.i); rwa [hwi] at this
  simp only [List.length_cons] at hsz hul
  have hge1 : (0 : Int) < ((bsB (36 :: ([100, 117, 109, 112, 97, 108, 108] : Bs))).size : Int) := by omega
  have hix := bsB_at0 36 ([100, 117, 109, 112, 97, 108, 108] : Bs)
  obtain ⟨b, o, e1, g0, g1, g2, g3⟩ := (hx.s.below hx.h.b).wds hx.i
  rw [hwi] at g0 g1 g2 g3
  dsimp only at g0 g1 g2 g3
  have p0 := hx.h.row.cell (j := 0) rfl
  have p1 := hx.h.row.cell (j := 1) rfl
  rw [hx.n, e1] at p0
  have n0 := World.new_ne W _ p0
  have n1 := World.new_ne W _ g0
  have hal : Below W.heap.size W (W.alloc (.cells #[.string (bsB (36 :: ([100, 117, 109, 112, 97, 108, 108] : Bs))), .int .i64 o1, .int .i64 o2, .int .i64 o3] 39)).drew := ((Below.refl _ _).alloc (Nat.le_refl _) _).drew
  have HBK := Lib.hid (show (W.alloc (.cells #[.string (bsB (36 :: ([100, 117, 109, 112, 97, 108, 108] : Bs))), .int .i64 o1, .int .i64 o2, .int .i64 o3] 39)).drew.heap[W.heap.size]? = _ from heap_alloc_new W (.cells #[.string (bsB (36 :: ([100, 117, 109, 112, 97, 108, 108] : Bs))), .int .i64 o1, .int .i64 o2, .int .i64 o3] 39))
  have H1 := Lib.hid (hx.h.later hal)
  have hi1 : (0 : Int) ≤ (i : Int) := by omega
  have hi2 : (i : Int) < (ws.length : Int) := by have := hx.i; omega
  have HX := Lib.hid hx
  clear hal e1 hwi hsz
  go_enter Tryz.func34, Tryz.ntmps34
  go_upto_region 0 with fail
  go_region_held3 (fun w' => w'.cell? ⟨c.B, 0, none⟩ = some (.slice (some ⟨b, o, none⟩) ws.length c.wc) ∧ w'.cell? ⟨c.B, 1, none⟩ = some (.int .i64 (i : Int)) ∧ w'.cell? ⟨b, o + i * 4, none⟩ = some (.string (bsB (36 :: ([100, 117, 109, 112, 97, 108, 108] : Bs)))) ∧ w'.cell? ⟨b, o + i * 4 + 1, none⟩ = some (.int .i64 o1) ∧ w'.cell? ⟨b, o + i * 4 + 2, none⟩ = some (.int .i64 o2) ∧ w'.cell? ⟨b, o + i * 4 + 3, none⟩ = some (.int .i64 o3))
    (first | exact ⟨p0, p1, g0, g1, g2, g3⟩ | go_keep) (fail)
  clear p0 p1 g0 g1 g2 g3 n0 n1 hi1 hi2 hx
  generalize (W.alloc (.cells #[.string (bsB (36 :: ([100, 117, 109, 112, 97, 108, 108] : Bs))), .int .i64 o1, .int .i64 o2, .int .i64 o3] 39)).drew = w1 at *
  have x0 := (own_block HBK.out).cell (j := 0) rfl
  have x1 := (own_block HBK.out).cell (j := 1) rfl
  have x2 := (own_block HBK.out).cell (j := 2) rfl
  have x3 := (own_block HBK.out).cell (j := 3) rfl
  (have hlk := ps_kw H1.out HX.out.G (tx := 36 :: ([100, 117, 109, 112, 97, 108, 108] : Bs)) hul; rw [show kwF c.B (36 :: ([100, 117, 109, 112, 97, 108, 108] : Bs)) = some (mV 44 c.B) from rfl] at hlk; simp only [Option.getD_some, Option.isSome_some] at hlk)
  go_wp2_with fail
  refine (ps_dump c i s vo vr (36 :: [100, 117, 109, 112, 97, 108, 108], o1, o2, o3) _ H1.out HX.out.l1 HX.out.l2).mono ?_
  rintro e w9 ⟨rfl, vo9, vr9, h9⟩
  have H9 := Lib.hid h9
  clear h9
  go_wp2_with fail
  go_end0
  exact ⟨rfl, _, _, H9.out⟩
set_option maxHeartbeats 1600000 in
set_option maxRecDepth 100000 in
theorem ps_cmdKF (c : PC) (L : List Dcl) (ws : List Wd) (i : Nat) (s : PS) (vo vr : Value)  (o1 o2 o3 : Int) (W : World) (hx : CX c L ws i s vo vr W) (hwi : ws[i]'hx.i = (36 :: ([100, 117, 109, 112, 111, 102, 102] : Bs), o1, o2, o3))  :
    Calls Tryz.prog 34 #[.pointer (some ⟨c.B, 0, none⟩), .map (some c.kb)] W (PPost c ((i : Int)) (turnP s (36 :: [100, 117, 109, 112, 111, 102, 102], o1, o2, o3) true)) := by
  have hsz : (bsB (36 :: ([100, 117, 109, 112, 111, 102, 102] : Bs))).size = (36 :: ([100, 117, 109, 112, 111, 102, 102] : Bs) : Bs).length := bsB_size _
  have hul : (36 :: ([100, 117, 109, 112, 111, 102, 102] : Bs) : Bs).length ≤ 140737488351232 := by have := hx.t _ (List.getElem_mem hx.i); rwa [hwi] at this
  simp only [List.length_cons] at hsz hul
  have hge1 : (0 : Int) < ((bsB (36 :: ([100, 117, 109, 112, 111, 102, 102] : Bs))).size : Int) := by omega
  have hix := bsB_at0 36 ([100, 117, 109, 112, 111, 102, 102] : Bs)
  obtain ⟨b, o, e1, g0, g1, g2, g3⟩ := (hx.s.below hx.h.b).wds hx.i
  rw [hwi] at g0 g1 g2 g3
  dsimp only at g0 g1 g2 g3
  have p0 := hx.h.row.cell (j := 0) rfl
  have p1 := hx.h.row.cell (j := 1) rfl
  rw [hx.n, e1] at p0
  have n0 := World.new_ne W _ p0
  have n1 := World.new_ne W _ g0
  have hal : Below W.heap.size W (W.alloc (.cells #[.string (bsB (36 :: ([100, 117, 109, 112, 111, 102, 102] : Bs))), .int .i64 o1, .int .i64 o2, .int .i64 o3] 39)).drew := ((Below.refl _ _).alloc (Nat.le_refl _) _).drew
  have HBK := Lib.hid (show (W.alloc (.cells #[.string (bsB (36 :: ([100, 117, 109, 112, 111, 102, 102] : Bs))), .int .i64 o1, .int .i64 o2, .int .i64 o3] 39)).drew.heap[W.heap.size]? = _ from heap_alloc_new W (.cells #[.string (bsB (36 :: ([100, 117, 109, 112, 111, 102, 102] : Bs))), .int .i64 o1, .int .i64 o2, .int .i64 o3] 39))
  have H1 := Lib.hid (hx.h.later hal)
  have hi1 : (0 : Int) ≤ (i : Int) := by omega
  have hi2 : (i : Int) < (ws.length : Int) := by have := hx.i; omega
  have HX := Lib.hid hx
  clear hal e1 hwi hsz
  go_enter Tryz.func34, Tryz.ntmps34
  go_upto_region 0 with fail
  go_region_held3 (fun w' => w'.cell? ⟨c.B, 0, none⟩ = some (.slice (some ⟨b, o, none⟩) ws.length c.wc) ∧ w'.cell? ⟨c.B, 1, none⟩ = some (.int .i64 (i : Int)) ∧ w'.cell? ⟨b, o + i * 4, none⟩ = some (.string (bsB (36 :: ([100, 117, 109, 112, 111, 102, 102] : Bs)))) ∧ w'.cell? ⟨b, o + i * 4 + 1, none⟩ = some (.int .i64 o1) ∧ w'.cell? ⟨b, o + i * 4 + 2, none⟩ = some (.int .i64 o2) ∧ w'.cell? ⟨b, o + i * 4 + 3, none⟩ = some (.int .i64 o3))
    (first | exact ⟨p0, p1, g0, g1, g2, g3⟩ | go_keep) (fail)
  clear p0 p1 g0 g1 g2 g3 n0 n1 hi1 hi2 hx
  generalize (W.alloc (.cells #[.string (bsB (36 :: ([100, 117, 109, 112, 111, 102, 102] : Bs))), .int .i64 o1, .int .i64 o2, .int .i64 o3] 39)).drew = w1 at *
  have x0 := (own_block HBK.out).cell (j := 0) rfl
  have x1 := (own_block HBK.out).cell (j := 1) rfl
  have x2 := (own_block HBK.out).cell (j := 2) rfl
  have x3 := (own_block HBK.out).cell (j := 3) rfl
  (have hlk := ps_kw H1.out HX.out.G (tx := 36 :: ([100, 117, 109, 112, 111, 102, 102] : Bs)) hul; rw [show kwF c.B (36 :: ([100, 117, 109, 112, 111, 102, 102] : Bs)) = some (mV 45 c.B) from rfl] at hlk; simp only [Option.getD_some, Option.isSome_some] at hlk)
  go_wp2_with fail
  refine (ps_turn_off c i s vo vr o1 o2 o3 _ H1.out HX.out.l1 HX.out.l2).mono ?_
  rintro e w9 ⟨rfl, vo9, vr9, h9⟩
  have H9 := Lib.hid h9
  clear h9
  go_wp2_with fail
  go_end0
  exact ⟨rfl, _, _, H9.out⟩
set_option maxHeartbeats 1600000 in
set_option maxRecDepth 100000 in
theorem ps_cmdKO (c : PC) (L : List Dcl) (ws : List Wd) (i : Nat) (s : PS) (vo vr : Value)  (o1 o2 o3 : Int) (W : World) (hx : CX c L ws i s vo vr W) (hwi : ws[i]'hx.i = (36 :: ([100, 117, 109, 112, 111, 110] : Bs), o1, o2, o3))  :
    Calls Tryz.prog 34 #[.pointer (some ⟨c.B, 0, none⟩), .map (some c.kb)] W (PPost c ((i : Int)) (turnP s (36 :: [100, 117, 109, 112, 111, 110], o1, o2, o3) false)) := by
  have hsz : (bsB (36 :: ([100, 117, 109, 112, 111, 110] : Bs))).size = (36 :: ([100, 117, 109, 112, 111, 110] : Bs) : Bs).length := bsB_size _
  have hul : (36 :: ([100, 117, 109, 112, 111, 110] : Bs) : Bs).length ≤ 140737488351232 := by have := hx.t _ (List.getElem_mem hx.i); rwa [hwi] at this
  simp only [List.length_cons] at hsz hul
  have hge1 : (0 : Int) < ((bsB (36 :: ([100, 117, 109, 112, 111, 110] : Bs))).size : Int) := by omega
  have hix := bsB_at0 36 ([100, 117, 109, 112, 111, 110] : Bs)
  obtain ⟨b, o, e1, g0, g1, g2, g3⟩ := (hx.s.below hx.h.b).wds hx.i
  rw [hwi] at g0 g1 g2 g3
  dsimp only at g0 g1 g2 g3
  have p0 := hx.h.row.cell (j := 0) rfl
  have p1 := hx.h.row.cell (j := 1) rfl
  rw [hx.n, e1] at p0
  have n0 := World.new_ne W _ p0
  have n1 := World.new_ne W _ g0
  have hal : Below W.heap.size W (W.alloc (.cells #[.string (bsB (36 :: ([100, 117, 109, 112, 111, 110] : Bs))), .int .i64 o1, .int .i64 o2, .int .i64 o3] 39)).drew := ((Below.refl _ _).alloc (Nat.le_refl _) _).drew
  have HBK := Lib.hid (show (W.alloc (.cells #[.string (bsB (36 :: ([100, 117, 109, 112, 111, 110] : Bs))), .int .i64 o1, .int .i64 o2, .int .i64 o3] 39)).drew.heap[W.heap.size]? = _ from heap_alloc_new W (.cells #[.string (bsB (36 :: ([100, 117, 109, 112, 111, 110] : Bs))), .int .i64 o1, .int .i64 o2, .int .i64 o3] 39))
  have H1 := Lib.hid (hx.h.later hal)
  have hi1 : (0 : Int) ≤ (i : Int) := by omega
  have hi2 : (i : Int) < (ws.length : Int) := by have := hx.i; omega
  have HX := Lib.hid hx
  clear hal e1 hwi hsz
  go_enter Tryz.func34, Tryz.ntmps34
  go_upto_region 0 with fail
  go_region_held3 (fun w' => w'.cell? ⟨c.B, 0, none⟩ = some (.slice (some ⟨b, o, none⟩) ws.length c.wc) ∧ w'.cell? ⟨c.B, 1, none⟩ = some (.int .i64 (i : Int)) ∧ w'.cell? ⟨b, o + i * 4, none⟩ = some (.string (bsB (36 :: ([100, 117, 109, 112, 111, 110] : Bs)))) ∧ w'.cell? ⟨b, o + i * 4 + 1, none⟩ = some (.int .i64 o1) ∧ w'.cell? ⟨b, o + i * 4 + 2, none⟩ = some (.int .i64 o2) ∧ w'.cell? ⟨b, o + i * 4 + 3, none⟩ = some (.int .i64 o3))
    (first | exact ⟨p0, p1, g0, g1, g2, g3⟩ | go_keep) (fail)
  clear p0 p1 g0 g1 g2 g3 n0 n1 hi1 hi2 hx
  generalize (W.alloc (.cells #[.string (bsB (36 :: ([100, 117, 109, 112, 111, 110] : Bs))), .int .i64 o1, .int .i64 o2, .int .i64 o3] 39)).drew = w1 at *
  have x0 := (own_block HBK.out).cell (j := 0) rfl
  have x1 := (own_block HBK.out).cell (j := 1) rfl
  have x2 := (own_block HBK.out).cell (j := 2) rfl
  have x3 := (own_block HBK.out).cell (j := 3) rfl
  (have hlk := ps_kw H1.out HX.out.G (tx := 36 :: ([100, 117, 109, 112, 111, 110] : Bs)) hul; rw [show kwF c.B (36 :: ([100, 117, 109, 112, 111, 110] : Bs)) = some (mV 45 c.B) from rfl] at hlk; simp only [Option.getD_some, Option.isSome_some] at hlk)
  go_wp2_with fail
  refine (ps_turn_on c i s vo vr o1 o2 o3 _ H1.out HX.out.l1 HX.out.l2).mono ?_
  rintro e w9 ⟨rfl, vo9, vr9, h9⟩
  have H9 := Lib.hid h9
  clear h9
  go_wp2_with fail
  go_end0
  exact ⟨rfl, _, _, H9.out⟩
set_option maxHeartbeats 1600000 in
set_option maxRecDepth 100000 in
theorem ps_cmdKE (c : PC) (L : List Dcl) (ws : List Wd) (i : Nat) (s : PS) (vo vr : Value)  (o1 o2 o3 : Int) (W : World) (hx : CX c L ws i s vo vr W) (hwi : ws[i]'hx.i = (36 :: ([101, 110, 100] : Bs), o1, o2, o3))  :
    Calls Tryz.prog 34 #[.pointer (some ⟨c.B, 0, none⟩), .map (some c.kb)] W (PPost c ((i : Int)) (endP s (36 :: [101, 110, 100], o1, o2, o3))) := by
  have hsz : (bsB (36 :: ([101, 110, 100] : Bs))).size = (36 :: ([101, 110, 100] : Bs) : Bs).length := bsB_size _
  have hul : (36 :: ([101, 110, 100] : Bs) : Bs).length ≤ 140737488351232 := by have := hx.t _ (List.getElem_mem hx.i); rwa [hwi] at this
  simp only [List.length_cons] at hsz hul
  have hge1 : (0 : Int) < ((bsB (36 :: ([101, 110, 100] : Bs))).size : Int) := by omega
  have hix := bsB_at0 36 ([101, 110, 100] : Bs)
  obtain ⟨b, o, e1, g0, g1, g2, g3⟩ := (hx.s.below hx.h.b).wds hx.i
  rw [hwi] at g0 g1 g2 g3
  dsimp only at g0 g1 g2 g3
  have p0 := hx.h.row.cell (j := 0) rfl
  have p1 := hx.h.row.cell (j := 1) rfl
  rw [hx.n, e1] at p0
  have n0 := World.new_ne W _ p0
  have n1 := World.new_ne W _ g0
  have hal : Below W.heap.size W (W.alloc (.cells #[.string (bsB (36 :: ([101, 110, 100] : Bs))), .int .i64 o1, .int .i64 o2, .int .i64 o3] 39)).drew := ((Below.refl _ _).alloc (Nat.le_refl _) _).drew
  have HBK := Lib.hid (show (W.alloc (.cells #[.string (bsB (36 :: ([101, 110, 100] : Bs))), .int .i64 o1, .int .i64 o2, .int .i64 o3] 39)).drew.heap[W.heap.size]? = _ from heap_alloc_new W (.cells #[.string (bsB (36 :: ([101, 110, 100] : Bs))), .int .i64 o1, .int .i64 o2, .int .i64 o3] 39))
  have H1 := Lib.hid (hx.h.later hal)
  have hi1 : (0 : Int) ≤ (i : Int) := by omega
  have hi2 : (i : Int) < (ws.length : Int) := by have := hx.i; omega
  have HX := Lib.hid hx
  clear hal e1 hwi hsz
  go_enter Tryz.func34, Tryz.ntmps34
  go_upto_region 0 with fail
  go_region_held3 (fun w' => w'.cell? ⟨c.B, 0, none⟩ = some (.slice (some ⟨b, o, none⟩) ws.length c.wc) ∧ w'.cell? ⟨c.B, 1, none⟩ = some (.int .i64 (i : Int)) ∧ w'.cell? ⟨b, o + i * 4, none⟩ = some (.string (bsB (36 :: ([101, 110, 100] : Bs)))) ∧ w'.cell? ⟨b, o + i * 4 + 1, none⟩ = some (.int .i64 o1) ∧ w'.cell? ⟨b, o + i * 4 + 2, none⟩ = some (.int .i64 o2) ∧ w'.cell? ⟨b, o + i * 4 + 3, none⟩ = some (.int .i64 o3))
    (first | exact ⟨p0, p1, g0, g1, g2, g3⟩ | go_keep) (fail)
  clear p0 p1 g0 g1 g2 g3 n0 n1 hi1 hi2 hx
  generalize (W.alloc (.cells #[.string (bsB (36 :: ([101, 110, 100] : Bs))), .int .i64 o1, .int .i64 o2, .int .i64 o3] 39)).drew = w1 at *
  have x0 := (own_block HBK.out).cell (j := 0) rfl
  have x1 := (own_block HBK.out).cell (j := 1) rfl
  have x2 := (own_block HBK.out).cell (j := 2) rfl
  have x3 := (own_block HBK.out).cell (j := 3) rfl
  (have hlk := ps_kw H1.out HX.out.G (tx := 36 :: ([101, 110, 100] : Bs)) hul; rw [show kwF c.B (36 :: ([101, 110, 100] : Bs)) = some (mV 46 c.B) from rfl] at hlk; simp only [Option.getD_some, Option.isSome_some] at hlk)
  go_wp2_with fail
  refine (ps_end c i s vo vr (36 :: [101, 110, 100], o1, o2, o3) _ H1.out HX.out.l1).mono ?_
  rintro e w9 ⟨rfl, vo9, vr9, h9⟩
  have H9 := Lib.hid h9
  clear h9
  go_wp2_with fail
  go_end0
  exact ⟨rfl, _, _, H9.out⟩
set_option maxHeartbeats 1600000 in
set_option maxRecDepth 100000 in
theorem ps_cmdX (c : PC) (L : List Dcl) (ws : List Wd) (i : Nat) (s : PS) (vo vr : Value) (u : Bs) (o1 o2 o3 : Int) (W : World) (hx : CX c L ws i s vo vr W) (hwi : ws[i]'hx.i = (36 :: u, o1, o2, o3)) (hkn : kwF c.B (36 :: u) = none) :
    Calls Tryz.prog 34 #[.pointer (some ⟨c.B, 0, none⟩), .map (some c.kb)] W (PPost c (((secN ws i).1 : Int) - 1) (s.secP (36 :: u, o1, o2, o3) (secN ws i).2)) := by
  have hsz : (bsB (36 :: u)).size = (36 :: u : Bs).length := bsB_size _
  have hul : (36 :: u : Bs).length ≤ 140737488351232 := by have := hx.t _ (List.getElem_mem hx.i); rwa [hwi] at this
  simp only [List.length_cons] at hsz hul
  have hge1 : (0 : Int) < ((bsB (36 :: u)).size : Int) := by omega
  have hix := bsB_at0 36 u
  obtain ⟨b, o, e1, g0, g1, g2, g3⟩ := (hx.s.below hx.h.b).wds hx.i
  rw [hwi] at g0 g1 g2 g3
  dsimp only at g0 g1 g2 g3
  have p0 := hx.h.row.cell (j := 0) rfl
  have p1 := hx.h.row.cell (j := 1) rfl
  rw [hx.n, e1] at p0
  have n0 := World.new_ne W _ p0
  have n1 := World.new_ne W _ g0
  have hal : Below W.heap.size W (W.alloc (.cells #[.string (bsB (36 :: u)), .int .i64 o1, .int .i64 o2, .int .i64 o3] 39)).drew := ((Below.refl _ _).alloc (Nat.le_refl _) _).drew
  have HBK := Lib.hid (show (W.alloc (.cells #[.string (bsB (36 :: u)), .int .i64 o1, .int .i64 o2, .int .i64 o3] 39)).drew.heap[W.heap.size]? = _ from heap_alloc_new W (.cells #[.string (bsB (36 :: u)), .int .i64 o1, .int .i64 o2, .int .i64 o3] 39))
  have H1 := Lib.hid (hx.h.later hal)
  have hi1 : (0 : Int) ≤ (i : Int) := by omega
  have hi2 : (i : Int) < (ws.length : Int) := by have := hx.i; omega
  have HX := Lib.hid hx
  clear hal e1 hwi hsz
  go_enter Tryz.func34, Tryz.ntmps34
  go_upto_region 0 with fail
  go_region_held3 (fun w' => w'.cell? ⟨c.B, 0, none⟩ = some (.slice (some ⟨b, o, none⟩) ws.length c.wc) ∧ w'.cell? ⟨c.B, 1, none⟩ = some (.int .i64 (i : Int)) ∧ w'.cell? ⟨b, o + i * 4, none⟩ = some (.string (bsB (36 :: u))) ∧ w'.cell? ⟨b, o + i * 4 + 1, none⟩ = some (.int .i64 o1) ∧ w'.cell? ⟨b, o + i * 4 + 2, none⟩ = some (.int .i64 o2) ∧ w'.cell? ⟨b, o + i * 4 + 3, none⟩ = some (.int .i64 o3))
    (first | exact ⟨p0, p1, g0, g1, g2, g3⟩ | go_keep) (fail)
  clear p0 p1 g0 g1 g2 g3 n0 n1 hi1 hi2 hx
  generalize (W.alloc (.cells #[.string (bsB (36 :: u)), .int .i64 o1, .int .i64 o2, .int .i64 o3] 39)).drew = w1 at *
  have x0 := (own_block HBK.out).cell (j := 0) rfl
  have x1 := (own_block HBK.out).cell (j := 1) rfl
  have x2 := (own_block HBK.out).cell (j := 2) rfl
  have x3 := (own_block HBK.out).cell (j := 3) rfl
  (have hlk := ps_kw H1.out HX.out.G (tx := 36 :: u) hul; rw [hkn] at hlk; simp only [Option.getD_none, Option.isSome_none] at hlk)
  go_wp2_with fail
  refine (ps_section c ws i s vo vr (36 :: u, o1, o2, o3) _ H1.out HX.out.l1 HX.out.i HX.out.wl HX.out.n HX.out.s).mono ?_
  rintro e w9 ⟨rfl, vo9, vr9, h9⟩
  have H9 := Lib.hid h9
  clear h9
  go_wp2_with fail
  go_end0
  exact ⟨rfl, _, _, H9.out⟩
set_option maxHeartbeats 1600000 in
set_option maxRecDepth 100000 in
theorem ps_cmdD (c : PC) (L : List Dcl) (ws : List Wd) (i : Nat) (s : PS) (vo vr : Value) (c0 : UInt8) (u : Bs) (o1 o2 o3 : Int) (W : World) (hx : CX c L ws i s vo vr W) (hwi : ws[i]'hx.i = (c0 :: u, o1, o2, o3)) (hd : c0 ≠ 35 ∧ c0 ≠ 36 ∧ c0 ≠ 48 ∧ c0 ≠ 49 ∧ c0 ≠ 120 ∧ c0 ≠ 122 ∧ c0 ≠ 88 ∧ c0 ≠ 90 ∧ c0 ≠ 115 ∧ c0 ≠ 83 ∧ c0 ≠ 114 ∧ c0 ≠ 82 ∧ c0 ≠ 98 ∧ c0 ≠ 66) :
    Calls Tryz.prog 34 #[.pointer (some ⟨c.B, 0, none⟩), .map (some c.kb)] W (PPost c ((i : Int)) (s.prob 3 (c0 :: u, o1, o2, o3))) := by
  have hsz : (bsB (c0 :: u)).size = (c0 :: u : Bs).length := bsB_size _
  have hul : (c0 :: u : Bs).length ≤ 140737488351232 := by have := hx.t _ (List.getElem_mem hx.i); rwa [hwi] at this
  simp only [List.length_cons] at hsz hul
  have hge1 : (0 : Int) < ((bsB (c0 :: u)).size : Int) := by omega
  have hix := bsB_at0 c0 u
  obtain ⟨b, o, e1, g0, g1, g2, g3⟩ := (hx.s.below hx.h.b).wds hx.i
  rw [hwi] at g0 g1 g2 g3
  dsimp only at g0 g1 g2 g3
  have p0 := hx.h.row.cell (j := 0) rfl
  have p1 := hx.h.row.cell (j := 1) rfl
  rw [hx.n, e1] at p0
  have n0 := World.new_ne W _ p0
  have n1 := World.new_ne W _ g0
  have hal : Below W.heap.size W (W.alloc (.cells #[.string (bsB (c0 :: u)), .int .i64 o1, .int .i64 o2, .int .i64 o3] 39)).drew := ((Below.refl _ _).alloc (Nat.le_refl _) _).drew
  have HBK := Lib.hid (show (W.alloc (.cells #[.string (bsB (c0 :: u)), .int .i64 o1, .int .i64 o2, .int .i64 o3] 39)).drew.heap[W.heap.size]? = _ from heap_alloc_new W (.cells #[.string (bsB (c0 :: u)), .int .i64 o1, .int .i64 o2, .int .i64 o3] 39))
  have H1 := Lib.hid (hx.h.later hal)
  have hi1 : (0 : Int) ≤ (i : Int) := by omega
  have hi2 : (i : Int) < (ws.length : Int) := by have := hx.i; omega
  have HX := Lib.hid hx
  clear hal e1 hwi hsz
  go_enter Tryz.func34, Tryz.ntmps34
  go_upto_region 0 with fail
  go_region_held3 (fun w' => w'.cell? ⟨c.B, 0, none⟩ = some (.slice (some ⟨b, o, none⟩) ws.length c.wc) ∧ w'.cell? ⟨c.B, 1, none⟩ = some (.int .i64 (i : Int)) ∧ w'.cell? ⟨b, o + i * 4, none⟩ = some (.string (bsB (c0 :: u))) ∧ w'.cell? ⟨b, o + i * 4 + 1, none⟩ = some (.int .i64 o1) ∧ w'.cell? ⟨b, o + i * 4 + 2, none⟩ = some (.int .i64 o2) ∧ w'.cell? ⟨b, o + i * 4 + 3, none⟩ = some (.int .i64 o3))
    (first | exact ⟨p0, p1, g0, g1, g2, g3⟩ | go_keep) (fail)
  clear p0 p1 g0 g1 g2 g3 n0 n1 hi1 hi2 hx
  generalize (W.alloc (.cells #[.string (bsB (c0 :: u)), .int .i64 o1, .int .i64 o2, .int .i64 o3] 39)).drew = w1 at *
  have x0 := (own_block HBK.out).cell (j := 0) rfl
  have x1 := (own_block HBK.out).cell (j := 1) rfl
  have x2 := (own_block HBK.out).cell (j := 2) rfl
  have x3 := (own_block HBK.out).cell (j := 3) rfl
  (have d35 : ((c0.toNat : Int) == 35) = false := byte_ne hd.1; have d36 : ((c0.toNat : Int) == 36) = false := byte_ne hd.2.1; have d48 : ((c0.toNat : Int) == 48) = false := byte_ne hd.2.2.1; have d49 : ((c0.toNat : Int) == 49) = false := byte_ne hd.2.2.2.1; have d120 : ((c0.toNat : Int) == 120) = false := byte_ne hd.2.2.2.2.1; have d122 : ((c0.toNat : Int) == 122) = false := byte_ne hd.2.2.2.2.2.1; have d88 : ((c0.toNat : Int) == 88) = false := byte_ne hd.2.2.2.2.2.2.1; have d90 : ((c0.toNat : Int) == 90) = false := byte_ne hd.2.2.2.2.2.2.2.1; have d115 : ((c0.toNat : Int) == 115) = false := byte_ne hd.2.2.2.2.2.2.2.2.1; have d83 : ((c0.toNat : Int) == 83) = false := byte_ne hd.2.2.2.2.2.2.2.2.2.1; have d114 : ((c0.toNat : Int) == 114) = false := byte_ne hd.2.2.2.2.2.2.2.2.2.2.1; have d82 : ((c0.toNat : Int) == 82) = false := byte_ne hd.2.2.2.2.2.2.2.2.2.2.2.1; have d98 : ((c0.toNat : Int) == 98) = false := byte_ne hd.2.2.2.2.2.2.2.2.2.2.2.2.1; have d66 : ((c0.toNat : Int) == 66) = false := byte_ne hd.2.2.2.2.2.2.2.2.2.2.2.2.2)
  go_wp2_with fail
  refine (ps_problem c i s vo vr 3 (c0 :: u, o1, o2, o3) _ H1.out HX.out.l1).mono ?_
  rintro e w9 ⟨rfl, vo9, vr9, h9⟩
  have H9 := Lib.hid h9
  clear h9
  go_wp2_with fail
  go_end0
  exact ⟨rfl, _, _, H9.out⟩
end Go.Proofs.YtgnkjcdkfcikeaaGreatDoor
