import Derived.Test.YtimeilkelnljnaaGreatDoorRst0
namespace Go.Proofs.YtimeilkelnljnaaGreatDoor
open Go.RowKit

theorem sgs_one {w : World} {v : Value} {L : List (Sg × Value)} (h : Sigs w v L) : ∀ u ∈ sgs L, u.oneCell' = true := by
  intro u hu
  obtain ⟨x, hx, hc⟩ := List.mem_flatMap.1 hu
  obtain ⟨a, c, e, -, -⟩ := (h.m x hx).shape
  simp [sgC] at hc
  rcases hc with rfl | rfl | rfl
  · rfl
  · rfl
  · rw [e]; rfl
theorem SlR.len {w : World} {v : Value} {n m : Nat} {xs : List Value} (h : SlR w v n xs) (e : n = m) : SlR w v m xs := by subst e; exact h
theorem adds_sigs {wa w10 : World} {v : Value} {L : List (Sg × Value)} {s : Sg} {A : Option Addr} {C B cap10 gg : Nat} (h : Sigs wa v L) (hy : SlR wa (.slice A s.2.2.length C) s.2.2.length (chs s.2.2)) (hb : Below wa.heap.size wa w10)
    (ho : w10.ownsRow B 37 3 (.slice (some ⟨gg, 0, none⟩) (L.length + 1) cap10) (L.length + 1) (sgs L ++ [.int .i64 s.1, .int .i64 s.2.1, .slice A s.2.2.length C])) :
    Sigs w10 (.slice (some ⟨gg, 0, none⟩) (L.length + 1) cap10) (L ++ [(s, .slice A s.2.2.length C)]) := by
  refine ⟨?_, fun x hx => ?_⟩
  · have h1 := SlR.of_own ho
    rw [sgs_app]
    exact h1.len (by simp)
  · rcases List.mem_append.1 hx with hx | hx
    · exact (h.m x hx).below hb
    · rw [List.mem_singleton] at hx
      subst hx
      exact hy.below hb
theorem adds_sigs2 {wa w10 : World} {v : Value} {L : List (Sg × Value)} {s : Sg} {A : Option Addr} {C B cap10 gg : Nat} (h : Sigs wa v L) (hy : SlR wa (.slice A s.2.2.length C) s.2.2.length (chs s.2.2)) (hb : Below wa.heap.size wa w10)
    (ho : w10.ownsRow B 37 3 (.slice (some ⟨gg, 0, none⟩) (0 + L.length + 1) cap10) (0 + L.length + 1) ([] ++ sgs L ++ [.int .i64 s.1, .int .i64 s.2.1, .slice A s.2.2.length C])) :
    Sigs w10 (.slice (some ⟨gg, 0, none⟩) (L.length + 1) cap10) (L ++ [(s, .slice A s.2.2.length C)]) := by
  simp only [Nat.zero_add, List.nil_append] at ho
  exact adds_sigs h hy hb ho
theorem adds_find {w : World} {v : Value} {L : List (Sg × Value)} {s : Sg} {u : Value} {st : List Nat} {d2 : List Dv} (hr : findR (L.map Prod.fst ++ [s]) = (st, d2)) (hg : Glob w) (hs : Sigs w v (L ++ [(s, u)])) (hf : FitS L) (hfy : Fit s.2.2) (hl : L.length ≤ 7) :
    Calls Tryz.prog 10 #[v] w fun e w' => ∃ v1 v2, e = .returned (.tuple #[v1, v2]) ∧ SlR w' v1 st.length (nats st) ∧ SlR w' v2 d2.length (dvs d2) ∧ Below w.heap.size w w' := by
  have h := al_Find v (L ++ [(s, u)]) w hg hs ⟨by rw [List.length_append, List.length_singleton]; omega, fun x hx => by
    rcases List.mem_append.1 hx with hx | hx
    · exact hf.2 x hx
    · rw [List.mem_singleton] at hx; subst hx; exact hfy⟩ (by rw [List.length_append, List.length_singleton]; omega)
  rw [List.map_append, List.map_cons, List.map_nil, hr] at h
  refine h.mono ?_
  rintro e w' ⟨v1, v2, rfl, ho1, ho2, hb⟩
  exact ⟨v1, v2, rfl, SlR.of_own ho1, ho2, hb⟩
theorem own_news {w : World} {b : Nat} {xs : List Value} (h : OwnRow w b xs) : ∀ (j : Nat) (u : Value), xs[j]? = some u → w.cell? ((⟨b, 0, none⟩ : Addr).add j) = some u := fun j u hj => by
  rw [addr_add, Nat.zero_add]
  exact h.cell hj
theorem find_goodA {L : List Sg} (h : L.all svS = true) : findR L = (storedR L, dersR L) := by
  unfold findR; rw [if_pos h]
theorem add_slice {n low width : Int} {l : List Ch} (h : sv 0 n l = true) (hc : SlOk n low width) :
    ∃ p, sliceR 0 n l low width = ((0, width, p), 0) ∧ svS (0, width, p) = true ∧ Der (0, n, l) (0, width, p) ∧ ∃ q, invR 0 width p = ((0, width, q), 0) ∧ svS (0, width, q) = true ∧ Der (0, n, l) (0, width, q) := by
  obtain ⟨p, e1, e2, -, e4⟩ := slice_ok h hc
  obtain ⟨q, f1, f2, -, f4⟩ := inv_ok e2
  have h0 := hc.1
  have hl : ((low.toNat : Nat) : Int) = low := by omega
  refine ⟨p, e1, e2, (der_bits h e2).2 ⟨false, low.toNat, (hit_iff h e2 _ _).2 ⟨by rw [hl]; exact hc, fun t => ?_⟩⟩, q, f1, f2, (der_bits h f2).2 ⟨true, low.toNat, (hit_iff h f2 _ _).2 ⟨by rw [hl]; exact hc, fun t => ?_⟩⟩⟩
  · rw [e4, hl]; rfl
  · rw [f4, e4, hl]; rfl

set_option maxHeartbeats 16000000 in
set_option maxRecDepth 100000 in
theorem law_AliasAdds (v : Value) (L : List (Sg × Value)) (wh fr wi : Int) (inv : Bool) (w : World) (hg : Glob w) (hs : Sigs w v L) (hwh : 0 ≤ wh ∧ wh ≤ 255) (hfr : 0 ≤ fr ∧ fr ≤ 255) (hwi : 0 ≤ wi ∧ wi ≤ 255) :
    Calls Tryz.prog 5 #[v, .int .u8 wh, .int .u8 fr, .int .u8 wi, .bool inv] w fun e w' => e = .returned (.bool true) ∧ Below w.heap.size w w' := by
  obtain ⟨a, cap, rfl, hc, hm⟩ := hs.s.shape
  have HG := Lib.hid hg
  have HS := Lib.hid hs
  clear hg hs hm
  go_enter Tryz.func5, Tryz.ntmps5
  go_wp2_with fail
  refine (law_awake29 w HG.out).mono ?_
  rintro e w1 ⟨rfl, hb1⟩
  have HB1 := Lib.hid hb1
  clear hb1
  by_cases hL : L.length = 0
  · have h0 : ((L.length : Int) == 0) = true := by rw [hL]; rfl
    clear hL
    go_wp2_with fail
    go_ret
    exact ⟨rfl, HB1.out⟩
  have h0 : ((L.length : Int) == 0) = false := by rw [beq_eq_false_iff_ne]; omega
  go_wp2_with fail
  refine (ref_Few29 _ L 7 80 _ (HS.out.below HB1.out) (by omega) (by omega)).mono ?_
  rintro e w2 ⟨rfl, rfl⟩
  cases hfew : few29 (L.map Prod.fst) 7 80
  · clear hfew
    go_wp2_with fail
    go_ret
    exact ⟨rfl, HB1.out⟩
  obtain ⟨hfit, hl8, -⟩ := few29_fit hfew (by omega)
  have HF := Lib.hid hfit
  have hl : L.length ≤ 7 := by omega
  have HCN := Lib.hid (con_A _ L _ (HG.out.below HB1.out) (HS.out.below HB1.out) hfit)
  clear hfew hfit hl8
  cases hall : (L.map Prod.fst).all svS
  · rw [hall] at HCN
    clear hall
    go_wp2_with fail
    refine HCN.out.mono ?_
    rintro e w3 ⟨rfl, hb3⟩
    have HB3 := Lib.hid (ext_trans HB1.out hb3)
    clear hb3
    go_wp2_with fail
    go_ret
    exact ⟨rfl, HB3.out⟩
  rw [hall] at HCN
  have HALL := Lib.hid hall
  clear hall
  go_wp2_with fail
  refine HCN.out.mono ?_
  rintro e w3 ⟨rfl, hb3⟩
  have HB3 := Lib.hid (ext_trans HB1.out hb3)
  clear hb3 HCN
  obtain ⟨u, hu⟩ : ∃ u : Nat, u = wh.toNat % L.length := ⟨_, rfl⟩
  have hul : u < L.length := by rw [hu]; exact Nat.mod_lt _ (by omega)
  have hum : wh.tmod (L.length : Int) = (u : Int) := by
    rw [hu, Int.tmod_eq_emod_of_nonneg hwh.1, Int.natCast_emod, Int.toNat_of_nonneg hwh.1]
  have hwr : IntKind.i64.wrap wh = wh := IntWalk.i64_in _ (by omega)
  have hur : IntKind.i64.wrap (u : Int) = (u : Int) := IntWalk.i64_in _ (by omega)
  clear hu
  obtain ⟨b, o, rfl, y0, y1, y2, hy⟩ := (HS.out.below HB3.out).at hul
  have HVX := Lib.hid (show svS L[u].1 = true from List.all_eq_true.1 HALL.out _ (List.mem_map_of_mem (List.getElem_mem hul)))
  have HX := Lib.hid (show sgAt (L.map Prod.fst) u = L[u].1 by rw [sgAt_lt (by simpa using hul)]; simp)
  have HFX := Lib.hid (HF.out.2 _ (List.getElem_mem hul))
  generalize L[u] = x at y0 y1 y2 hy HVX HX HFX
  obtain ⟨⟨xk, xn, xl⟩, xv⟩ := x
  dsimp only at y0 y1 y2 hy HVX HX HFX
  obtain ⟨xa, xc, rfl, -, -⟩ := hy.shape
  have HY := Lib.hid hy
  have hx4 := OwnRow.fresh w3 #[.int .i64 xk, .int .i64 xn, .slice xa xl.length xc] 37
  have hb4 := (Below.refl w3.heap.size w3).alloc (Nat.le_refl _) (.cells #[.int .i64 xk, .int .i64 xn, .slice xa xl.length xc] 37)
  have hz4 : w3.heap.size < (w3.alloc (.cells #[.int .i64 xk, .int .i64 xn, .slice xa xl.length xc] 37)).heap.size := by simp
  obtain ⟨w4, hw4⟩ : ∃ w4, w4 = w3.alloc (.cells #[.int .i64 xk, .int .i64 xn, .slice xa xl.length xc] 37) := ⟨_, rfl⟩
  rw [← hw4] at hx4 hb4 hz4
  have HX4 := Lib.hid hx4
  have HB4 := Lib.hid hb4
  have HONE := Lib.hid (sgs_one HS.out)
  clear hy hx4 hb4
  by_cases hk : xk ≠ 0
  · have hkb : (xk == 0) = false := by rw [beq_eq_false_iff_ne]; exact hk
    go_upto_region 16 with fail
    rw [← hw4]
    clear hw4 hk y0 y1 y2
    have HSY := Lib.hid (HY.out.below HB4.out)
    have HDE := Lib.hid (der_self HVX.out)
    obtain ⟨wz, rfl⟩ : ∃ wz : World, wz = w4 := ⟨_, rfl⟩
    have HBW := HB4
    have HXW := HX4
    have HVY := HVX
    have hzw := hz4
    have HFY := Lib.hid (sv_fit HVY.out)
    have HBL := Lib.hid (ext_trans HB3.out HBW.out)
    have HFI := Lib.hid (al_Find _ L wz (HG.out.below HBL.out) (HS.out.below HBL.out) HF.out (by omega))
    rw [find_goodA HALL.out] at HFI
    go_wp2_with fail
    refine HFI.out.mono ?_
    rintro e wa ⟨v1, v2, rfl, ho1, ho2, hba⟩
    dsimp only at ho1 ho2
    obtain ⟨hst, dd, hdd, hdl⟩ := find_adds (x := (xk, xn, xl)) (u := u) (allV_of HALL.out) HVY.out (by rw [List.length_map]; exact hul) (by rw [HX.out]; exact HDE.out)
    have HAS := Lib.hid (show (L.map Prod.fst ++ [((xk, xn, xl) : Sg)]).all svS = true by rw [List.all_append, HALL.out]; simp [HVY.out])
    have HF2 := Lib.hid (find_goodA HAS.out)
    have hsl : (storedR (L.map Prod.fst)).length ≤ L.length := by
      have := base_len (L.map Prod.fst)
      unfold baseR at this
      rwa [List.length_map, List.length_map] at this
    have hdln : (dersR (L.map Prod.fst ++ [((xk, xn, xl) : Sg)])).length = L.length + 1 := by rw [ders_len]; simp
    rw [List.length_map] at hdd
    rw [hst] at HF2
    generalize storedR (L.map Prod.fst) = st at ho1 hst hdl HF2 hsl ⊢
    generalize dersR (L.map Prod.fst ++ [((xk, xn, xl) : Sg)]) = d2 at hdd HF2 hdln
    generalize dersR (L.map Prod.fst) = d1 at ho2 ⊢
    obtain ⟨a1, c1, rfl, -, -⟩ := (SlR.of_own ho1).shape
    obtain ⟨a2, c2, rfl, -, -⟩ := ho2.shape
    have HO1 := Lib.hid (SlR.of_own ho1)
    have HBA := Lib.hid (ext_trans HBL.out hba)
    have HXA := Lib.hid (HXW.out.below hba hzw)
    have HSA := Lib.hid (HS.out.below HBA.out)
    have HYA := Lib.hid (HSY.out.below hba)
    have ca := (HXA.out).cell (j := 0) rfl
    have cb := (HXA.out).cell (j := 1) rfl
    have cc := (HXA.out).cell (j := 2) rfl
    have HD2 := Lib.hid hdln
    have HDD := Lib.hid hdd
    clear ho1 ho2 hba hst hdd hdln HFI
    have HXC := Lib.hid (And.intro ca (And.intro cb cc))
    obtain ⟨i0, hi, iz0, iz1, iz2⟩ := info_parts (P := Tryz.prog) sg_info
    have hone : ∀ v ∈ sgs L, v.oneCell' = true := HONE.out
    have hza : w3.heap.size < wa.heap.size := cell_lt ca
    have HR1 := Lib.hid (World.ownsRow_made wa #[] 0 (Nat.le_refl _) (Nat.zero_le _) rfl : (wa.alloc (.cells #[] 37)).ownsRow wa.heap.size 37 3 (.slice (some ⟨wa.heap.size, 0, none⟩) 0 0) 0 [])
    have HW1 := Lib.hid ((Below.refl wa.heap.size wa).alloc (Nat.le_refl _) (.cells #[] 37))
    have HR2 := Lib.hid (World.ownsRow.alloc HR1.out (.cells #[.int .i64 xk, .int .i64 xn, .slice xa (xl).length xc] 37))
    have HW2 := Lib.hid (HW1.out.alloc HW1.out.size (.cells #[.int .i64 xk, .int .i64 xn, .slice xa (xl).length xc] 37))
    have HX2 := Lib.hid (show OwnRow ((wa.alloc (.cells #[] 37)).alloc (.cells #[.int .i64 xk, .int .i64 xn, .slice xa (xl).length xc] 37)) (wa.heap.size + 1) [.int .i64 xk, .int .i64 xn, .slice xa (xl).length xc] from by
      have h := OwnRow.fresh (wa.alloc (.cells #[] 37)) #[.int .i64 xk, .int .i64 xn, .slice xa (xl).length xc] 37
      simp only [World.size_alloc] at h
      exact h)
    have HW3 := Lib.hid (((Below.refl wa.heap.size wa).alloc (Nat.le_refl _) (.cells #[.int .i64 xk, .int .i64 xn, .slice xa (xl).length xc] 37)).alloc (by simp) (.cells #[] 37))
    have HR3 := Lib.hid (show ((wa.alloc (.cells #[.int .i64 xk, .int .i64 xn, .slice xa (xl).length xc] 37)).alloc (.cells #[] 37)).ownsRow wa.heap.size 37 3 (.slice (some ⟨wa.heap.size + 1, 0, none⟩) 0 0) 0 [] from by
      have h : ((wa.alloc (.cells #[.int .i64 xk, .int .i64 xn, .slice xa (xl).length xc] 37)).alloc (.cells #[] 37)).ownsRow (wa.alloc (.cells #[.int .i64 xk, .int .i64 xn, .slice xa (xl).length xc] 37)).heap.size 37 3 (.slice (some ⟨(wa.alloc (.cells #[.int .i64 xk, .int .i64 xn, .slice xa (xl).length xc] 37)).heap.size, 0, none⟩) 0 0) 0 [] := World.ownsRow_made (wa.alloc (.cells #[.int .i64 xk, .int .i64 xn, .slice xa (xl).length xc] 37)) #[] 0 (Nat.le_refl _) (Nat.zero_le _) rfl
      simp only [World.size_alloc] at h
      exact ownsRow_base h (by omega))
    have HX3 := Lib.hid ((OwnRow.fresh wa #[.int .i64 xk, .int .i64 xn, .slice xa (xl).length xc] 37).alloc (by simp) (.cells #[] 37))
    have hzE : wa.heap.size < (wa.alloc (.cells #[] 37)).drew.heap.size := by
      show wa.heap.size < (wa.alloc (.cells #[] 37)).heap.size
      simp
    have hzX : wa.heap.size + 1 < ((wa.alloc (.cells #[] 37)).alloc (.cells #[.int .i64 xk, .int .i64 xn, .slice xa (xl).length xc] 37)).drew.heap.size := by
      show wa.heap.size + 1 < ((wa.alloc (.cells #[] 37)).alloc (.cells #[.int .i64 xk, .int .i64 xn, .slice xa (xl).length xc] 37)).heap.size
      simp
    have hzX3 : wa.heap.size < ((wa.alloc (.cells #[.int .i64 xk, .int .i64 xn, .slice xa (xl).length xc] 37)).alloc (.cells #[] 37)).drew.heap.size := by
      show wa.heap.size < ((wa.alloc (.cells #[.int .i64 xk, .int .i64 xn, .slice xa (xl).length xc] 37)).alloc (.cells #[] 37)).heap.size
      simp; omega
    go_upto_region 17 with fail
    go_region_held3 (fun w' => w'.cell? ⟨w3.heap.size, 0, none⟩ = some (.int .i64 xk) ∧ w'.cell? ⟨w3.heap.size, 1, none⟩ = some (.int .i64 xn) ∧ w'.cell? ⟨w3.heap.size, 2, none⟩ = some (.slice xa (xl).length xc))
      (first | exact ⟨ca, cb, cc⟩ | exact ⟨ra, rb, rc⟩ | exact ⟨sa, sb, sc⟩ | exact ⟨ta, tb, tc⟩ | go_keep)
      (first
        | ((refine step_append_sl _ (by rfl) _ _ _ (by rfl) wa.heap.size 37 i0 (.agg #[.int .i64 0, .int .i64 0, .slice none 0 0]) 3 40 Tryz.underlying22 hi iz0 iz1 iz2 rfl (by decide) (.slice (some ⟨wa.heap.size, 0, none⟩) 0 0) 0 [] (by rfl) (by exact HR1.out.drew)
             _ L.length _ (sgs L) (by rfl) (by exact HSA.out.s.below HW1.out.drew) (by rw [sgs_len]; omega) hone (by unfold maxLen; omega) (by omega) (by exact HW1.out.drew.size) ?_); intro a9 c9 w9 ho9 hg9; have HB9 := Lib.hid (HW1.out.drew.grown hg9 HW1.out.drew.size (fun q hq => (HR1.out.lt q hq).1)); have hsz9 := HB9.out.size; have HO9 := Lib.hid (show w9.ownsRow wa.heap.size 37 3 (.slice a9 L.length c9) L.length (sgs L) by simpa using ho9); have HP9 := Lib.hid ho9; have ra := (HB9.out.cell (p := ⟨w3.heap.size, 0, none⟩) hza).trans HXC.out.1; have rb := (HB9.out.cell (p := ⟨w3.heap.size, 1, none⟩) hza).trans HXC.out.2.1; have rc := (HB9.out.cell (p := ⟨w3.heap.size, 2, none⟩) hza).trans HXC.out.2.2; have hpath1 : True := trivial; clear ho9 hg9)
        | ((refine step_append_sl _ (by rfl) _ _ _ (by rfl) wa.heap.size 37 i0 (.agg #[.int .i64 0, .int .i64 0, .slice none 0 0]) 3 40 Tryz.underlying22 hi iz0 iz1 iz2 rfl (by decide) (.slice (some ⟨wa.heap.size, 0, none⟩) 0 0) 0 [] (by rfl) (by exact HR2.out.drew)
             _ L.length _ (sgs L) (by rfl) (by exact HSA.out.s.below HW2.out.drew) (by rw [sgs_len]; omega) hone (by unfold maxLen; omega) (by omega) (by exact HW2.out.drew.size) ?_); intro a9 c9 w9 ho9 hg9; have HB9 := Lib.hid (HW2.out.drew.grown hg9 HW2.out.drew.size (fun q hq => (HR2.out.lt q hq).1)); have hsz9 := HB9.out.size; have HO9 := Lib.hid (show w9.ownsRow wa.heap.size 37 3 (.slice a9 L.length c9) L.length (sgs L) by simpa using ho9); have HP9 := Lib.hid ho9; have HN9 := Lib.hid (OwnRow.grown HX2.out.drew hg9 hzX (fun h => by simp [Value.ownBlock] at h)); have ra := (HB9.out.cell (p := ⟨w3.heap.size, 0, none⟩) hza).trans HXC.out.1; have rb := (HB9.out.cell (p := ⟨w3.heap.size, 1, none⟩) hza).trans HXC.out.2.1; have rc := (HB9.out.cell (p := ⟨w3.heap.size, 2, none⟩) hza).trans HXC.out.2.2; clear ho9 hg9)
        | ((refine step_append_sl _ (by rfl) _ _ _ (by rfl) wa.heap.size 37 i0 (.agg #[.int .i64 0, .int .i64 0, .slice none 0 0]) 3 40 Tryz.underlying22 hi iz0 iz1 iz2 rfl (by decide) (.slice (some ⟨wa.heap.size + 1, 0, none⟩) 0 0) 0 [] (by rfl) (by exact HR3.out.drew)
             _ L.length _ (sgs L) (by rfl) (by exact HSA.out.s.below HW3.out.drew) (by rw [sgs_len]; omega) hone (by unfold maxLen; omega) (by omega) (by exact HW3.out.drew.size) ?_); intro a9 c9 w9 ho9 hg9; have HB9 := Lib.hid (HW3.out.drew.grown hg9 HW3.out.drew.size (fun q hq => (HR3.out.lt q hq).1)); have hsz9 := HB9.out.size; have HO9 := Lib.hid (show w9.ownsRow wa.heap.size 37 3 (.slice a9 L.length c9) L.length (sgs L) by simpa using ho9); have HP9 := Lib.hid ho9; have HM9 := Lib.hid (OwnRow.grown HX3.out.drew hg9 hzX3 (fun h => by simp [Value.ownBlock] at h)); have ra := (HB9.out.cell (p := ⟨w3.heap.size, 0, none⟩) hza).trans HXC.out.1; have rb := (HB9.out.cell (p := ⟨w3.heap.size, 1, none⟩) hza).trans HXC.out.2.1; have rc := (HB9.out.cell (p := ⟨w3.heap.size, 2, none⟩) hza).trans HXC.out.2.2; clear ho9 hg9)
        | ((refine step_append_lies _ (by rfl) _ _ _ (by rfl) wa.heap.size 37 i0 _ 3 40 Tryz.underlying22 hi iz0 iz1 iz2 rfl (by omega) (.slice a9 L.length c9) L.length (sgs L) (by rfl) (by exact HO9.out.alloc _) ⟨w9.heap.size, 0, none⟩ 1 1 [.int .i64 xk, .int .i64 xn, .slice xa (xl).length xc] (by rfl) (by rfl) (World.news_of_block (cs := #[.int .i64 xk, .int .i64 xn, .slice xa (xl).length xc]) (t := 37) (fr := (0, 0)) (by exact heap_alloc_new w9 _)) (by simp [Value.oneCell']) (by omega) (by unfold maxLen; omega) (by omega) (by simp; omega) (w9.heap.size + 1) (by simp) ?_); have hp0 := hpath1; intro gg cap10 w10 hown1 hgrow hat hlt10; have HB10 := Lib.hid ((HB9.out.alloc HB9.out.size (.cells #[.int .i64 xk, .int .i64 xn, .slice xa (xl).length xc] 37)).grown hgrow (by simp; omega) (fun q hq => (HO9.out.lt q hq).1)); have HS10 := Lib.hid (adds_sigs (s := (xk, xn, xl)) HSA.out HYA.out HB10.out hown1); have sa := (HB10.out.cell (p := ⟨w3.heap.size, 0, none⟩) hza).trans HXC.out.1; have sb := (HB10.out.cell (p := ⟨w3.heap.size, 1, none⟩) hza).trans HXC.out.2.1; have sc := (HB10.out.cell (p := ⟨w3.heap.size, 2, none⟩) hza).trans HXC.out.2.2; clear hown1 hgrow)
        | ((refine step_append_lies _ (by rfl) _ _ _ (by rfl) wa.heap.size 37 i0 _ 3 40 Tryz.underlying22 hi iz0 iz1 iz2 rfl (by omega) (.slice a9 (0 + L.length) c9) (0 + L.length) ([] ++ sgs L) (by rfl) (by exact HP9.out) ⟨wa.heap.size + 1, 0, none⟩ 1 1 [.int .i64 xk, .int .i64 xn, .slice xa (xl).length xc] (by rfl) (by rfl) (own_news HN9.out) (by simp [Value.oneCell']) (by omega) (by unfold maxLen; omega) (by omega) (by omega) (w9.heap.size) (by rfl) ?_); intro gg cap10 w10 hown1 hgrow hat hlt10; have HB10 := Lib.hid (HB9.out.grown hgrow (by omega) (fun q hq => (HP9.out.lt q hq).1)); have HS10 := Lib.hid (adds_sigs2 (s := (xk, xn, xl)) HSA.out HYA.out HB10.out hown1); have sa := (HB10.out.cell (p := ⟨w3.heap.size, 0, none⟩) hza).trans HXC.out.1; have sb := (HB10.out.cell (p := ⟨w3.heap.size, 1, none⟩) hza).trans HXC.out.2.1; have sc := (HB10.out.cell (p := ⟨w3.heap.size, 2, none⟩) hza).trans HXC.out.2.2; clear hown1 hgrow)
        | ((refine step_append_lies _ (by rfl) _ _ _ (by rfl) wa.heap.size 37 i0 _ 3 40 Tryz.underlying22 hi iz0 iz1 iz2 rfl (by omega) (.slice a9 (0 + L.length) c9) (0 + L.length) ([] ++ sgs L) (by rfl) (by exact HP9.out) ⟨wa.heap.size, 0, none⟩ 1 1 [.int .i64 xk, .int .i64 xn, .slice xa (xl).length xc] (by rfl) (by rfl) (own_news HM9.out) (by simp [Value.oneCell']) (by omega) (by unfold maxLen; omega) (by omega) (by omega) (w9.heap.size) (by rfl) ?_); intro gg cap10 w10 hown1 hgrow hat hlt10; have HB10 := Lib.hid (HB9.out.grown hgrow (by omega) (fun q hq => (HP9.out.lt q hq).1)); have HS10 := Lib.hid (adds_sigs2 (s := (xk, xn, xl)) HSA.out HYA.out HB10.out hown1); have sa := (HB10.out.cell (p := ⟨w3.heap.size, 0, none⟩) hza).trans HXC.out.1; have sb := (HB10.out.cell (p := ⟨w3.heap.size, 1, none⟩) hza).trans HXC.out.2.1; have sc := (HB10.out.cell (p := ⟨w3.heap.size, 2, none⟩) hza).trans HXC.out.2.2; clear hown1 hgrow)
        | (go_at_call 10; (with_reducible refine (adds_find HF2.out (HG.out.below (ext_trans HBA.out HB10.out)) HS10.out HF.out HFY.out (by omega)).mono ?_); rintro e w11 ⟨v11, v12, rfl, ho11, ho12, hb11⟩; obtain ⟨a11, c11, rfl, -, -⟩ := ho11.shape; obtain ⟨a12, c12, rfl, -, -⟩ := ho12.shape; have HO11 := Lib.hid ho11; have HD11 := Lib.hid ho12; have HB11 := Lib.hid (ext_trans HB10.out hb11); have ta := (HB11.out.cell (p := ⟨w3.heap.size, 0, none⟩) hza).trans HXC.out.1; have tb := (HB11.out.cell (p := ⟨w3.heap.size, 1, none⟩) hza).trans HXC.out.2.1; have tc := (HB11.out.cell (p := ⟨w3.heap.size, 2, none⟩) hza).trans HXC.out.2.2; clear ho11 ho12 hb11)
        | fail "no arm")
    all_goals
      (try (rename_i hh; clear hh))
      obtain ⟨b8, o8, e8, z0, -, -⟩ := dv_at HD11.out (show L.length < d2.length by rw [HD2.out]; omega)
      have hdat := HDD.out
      rw [List.getElem?_eq_getElem (by rw [HD2.out]; omega)] at hdat
      rw [Option.some.inj hdat] at z0
      subst e8
      have hlt : decide (dd.1 < (st.length : Int)) = true := by rw [decide_eq_true_iff]; exact hdl
      have hdb : ((d2.length : Int) == (L.length : Int) + 1) = true := by rw [beq_iff_eq, HD2.out]; omega
      have hww9 : IntKind.i64.wrap ((L.length : Int) + 1) = (L.length : Int) + 1 := IntWalk.i64_in _ (by omega)
      have hl2 : L.length < d2.length := by rw [HD2.out]; omega
      have HIN := Lib.hid (ref_Ints _ _ st st w11 (HO1.out.below HB11.out) HO11.out)
      rw [decide_eq_true (show st = st from rfl)] at HIN
      clear hdat hdl
      go_wp2_with fail
      refine HIN.out.mono ?_
      rintro e w12 ⟨rfl, hb12⟩
      have z0 := (hb12.cell (cell_lt z0)).trans z0
      have HB12 := Lib.hid (ext_trans (ext_trans HBA.out HB11.out) hb12)
      clear hb12
      go_wp2_with fail
      go_ret
      exact ⟨rfl, HB12.out⟩
  obtain rfl : xk = 0 := Classical.not_not.1 hk
  have hkb : ((0 : Int) == 0) = true := rfl
  have hxw := vt0 (sv_iff.1 HVX.out).1
  dsimp only at hxw
  obtain ⟨low, hlw⟩ : ∃ low : Int, low = fr.tmod xn := ⟨_, rfl⟩
  have hlo0 : 0 ≤ low ∧ low < xn := by
    rw [hlw, Int.tmod_eq_emod_of_nonneg hfr.1]
    exact ⟨Int.emod_nonneg _ (by omega), Int.emod_lt_of_pos _ (by omega)⟩
  have hfw : IntKind.i64.wrap fr = fr := IntWalk.i64_in _ (by omega)
  have hlm : fr.tmod xn = low := hlw.symm
  have hlw2 : IntKind.i64.wrap low = low := IntWalk.i64_in _ (by omega)
  have hxn0 : ¬ xn = 0 := by omega
  obtain ⟨q, hqw⟩ : ∃ q : Int, q = wi.tmod (xn - low) := ⟨_, rfl⟩
  have hq0 : 0 ≤ q ∧ q < xn - low := by
    rw [hqw, Int.tmod_eq_emod_of_nonneg hwi.1]
    exact ⟨Int.emod_nonneg _ (by omega), Int.emod_lt_of_pos _ (by omega)⟩
  have hww : IntKind.i64.wrap wi = wi := IntWalk.i64_in _ (by omega)
  have hxl : IntKind.i64.wrap (xn - low) = xn - low := IntWalk.i64_in _ (by omega)
  have hqm : wi.tmod (xn - low) = q := hqw.symm
  have hqw2 : IntKind.i64.wrap q = q := IntWalk.i64_in _ (by omega)
  have hq1 : IntKind.i64.wrap (1 + q) = 1 + q := IntWalk.i64_in _ (by omega)
  have hxl0 : ¬ xn - low = 0 := by omega
  have hcs : SlOk xn low (1 + q) := ⟨hlo0.1, by omega, by omega, by omega⟩
  obtain ⟨p, hp1, hp2, hp3, qq, hq11, hq12, hq13⟩ := add_slice HVX.out hcs
  have hx40 := HX4.out.cell (j := 0) rfl
  have hx41 := HX4.out.cell (j := 1) rfl
  have hx42 := HX4.out.cell (j := 2) rfl
  have HXC := Lib.hid (And.intro hx40 (And.intro hx41 hx42))
  have HSL := Lib.hid (fun W (hW : Below w4.heap.size w4 W) => sig_Slice 0 xn (.slice xa xl.length xc) xl low (1 + q) W (HG.out.below (ext_trans HB3.out (ext_trans HB4.out hW))) (HY.out.below (ext_trans HB4.out hW)) HFX.out)
  rw [hp1] at HSL
  have HP2 := Lib.hid hp2
  have HP3 := Lib.hid hp3
  have HQ12 := Lib.hid hq12
  have HQ13 := Lib.hid hq13
  have HQ11 := Lib.hid hq11
  clear hlw hqw hp1 hp2 hp3 hq12 hq13 hq11 hcs hk
  go_upto_region 8 with fail
  rw [← hw4]
  clear hw4 y0 y1 y2
  have hlx : w4.heap.size < (w4.alloc (.cells #[.int .i64 0, .int .i64 0, .slice none 0 0] 37)).drew.heap.size := by
    show w4.heap.size < (w4.alloc (.cells #[.int .i64 0, .int .i64 0, .slice none 0 0] 37)).heap.size
    simp
  go_region_held3 (fun w' => w'.cell? ⟨w3.heap.size, 0, none⟩ = some (.int .i64 0) ∧ w'.cell? ⟨w3.heap.size, 1, none⟩ = some (.int .i64 xn) ∧ w'.cell? ⟨w3.heap.size, 2, none⟩ = some (.slice xa xl.length xc))
    (first | exact ⟨hx40, hx41, hx42⟩ | exact ⟨v0, v1, v2⟩ | (exact (have hq := below_set3' B6.out (Nat.le_refl _) (.int .i64 0) (.int .i64 (1 + q)) (.slice a5 p.length c5); ⟨(hq.cell (show w3.heap.size < _ by omega)).trans HXC.out.1, (hq.cell (show w3.heap.size < _ by omega)).trans HXC.out.2.1, (hq.cell (show w3.heap.size < _ by omega)).trans HXC.out.2.2⟩)) | go_keep)
    (first
      | (go_at_call 24; (with_reducible refine (HSL.out _ ?_).mono ?_); (exact below_drewN (Below.refl _ _) _); rintro e w5 ⟨v5', rfl, ho5, hb5⟩; have b5 := below_undrew hb5; obtain ⟨a5, c5, rfl, -, -⟩ := (SlR.of_own ho5).shape; have v0 := (b5.cell hz4).trans HXC.out.1; have v1 := (b5.cell hz4).trans HXC.out.2.1; have v2 := (b5.cell hz4).trans HXC.out.2.2; have B5 := Lib.hid b5; have HO5 := Lib.hid (ownsRow_base (base' := w4.heap.size) ho5 (Nat.le_refl _)); have hz5 := b5.size; clear b5 hb5 ho5)
      | (go_at_call 24; (with_reducible refine (HSL.out _ ?_).mono ?_); (exact ((Below.refl w4.heap.size w4).alloc (Nat.le_refl _) _).drew); rintro e w5 ⟨v5', rfl, ho5, hb5⟩; have b5 : Below w4.heap.size w4 w5 := ((Below.refl w4.heap.size w4).alloc (Nat.le_refl _) (.cells #[.int .i64 0, .int .i64 0, .slice none 0 0] 37)).drew.trans (hb5.mono (Nat.le_of_lt hlx)); obtain ⟨a5, c5, rfl, -, -⟩ := (SlR.of_own ho5).shape; have v0 := (b5.cell hz4).trans HXC.out.1; have v1 := (b5.cell hz4).trans HXC.out.2.1; have v2 := (b5.cell hz4).trans HXC.out.2.2; have hx5 : OwnRow w5 w4.heap.size [.int .i64 0, .int .i64 0, .slice none 0 0] := ((OwnRow.fresh w4 #[.int .i64 0, .int .i64 0, .slice none 0 0] 37).drew).below hb5 hlx; have x5 := hx5.cell (j := 0) rfl; have x6 := hx5.cell (j := 1) rfl; have x7 := hx5.cell (j := 2) rfl; have z0 := hx5.free (j := 0) (by simp); have z1 := hx5.free (j := 1) (by simp); have z2 := hx5.free (j := 2) (by simp); have hl5 : w4.heap.size < w5.heap.size := (Nat.lt_of_lt_of_le hlx hb5.size); have HX5 := Lib.hid hx5; have B6 := Lib.hid b5; have HO5 := Lib.hid ho5; have hz5 := b5.size; clear b5 hb5 ho5)
      | fail "no arm")
  · rename_i hh
    clear hh
    have hal := (Below.refl w5.heap.size w5).alloc (Nat.le_refl _) (.cells #[.int .i64 0, .int .i64 (1 + q), .slice a5 p.length c5] 37)
    have hb6 := ext_trans B5.out hal
    have ho6 := World.ownsRow.alloc HO5.out (.cells #[.int .i64 0, .int .i64 (1 + q), .slice a5 p.length c5] 37)
    have hs6 := OwnRow.fresh w5 #[.int .i64 0, .int .i64 (1 + q), .slice a5 p.length c5] 37
    have hDl : w5.heap.size < (w5.alloc (.cells #[.int .i64 0, .int .i64 (1 + q), .slice a5 p.length c5] 37)).heap.size := by simp
    have hDg := hz5
    clear hal v0 v1 v2 hx40 hx41 hx42 hlx HSL
    generalize w5.alloc (.cells #[.int .i64 0, .int .i64 (1 + q), .slice a5 p.length c5] 37) = w6 at hb6 ho6 hs6 hDl ⊢
    generalize w5.heap.size = D at hs6 hDl hDg ⊢
    have HS6 := Lib.hid hs6
    have HO6 := Lib.hid ho6
    have HB6W := Lib.hid hb6
    have hx6 := HX4.out.below hb6 hz4
    have hz6 : w3.heap.size < w6.heap.size := by have := hb6.size; omega
    have HX6 := Lib.hid hx6
    cases inv
    · have s0 := hs6.cell (j := 0) rfl
      have s1 := hs6.cell (j := 1) rfl
      have s2 := hs6.cell (j := 2) rfl
      have x0 := hx6.cell (j := 0) rfl
      have x1 := hx6.cell (j := 1) rfl
      have x2 := hx6.cell (j := 2) rfl
      have y0 := hx6.free (j := 0) (by simp)
      have y1 := hx6.free (j := 1) (by simp)
      have y2 := hx6.free (j := 2) (by simp)
      have hxw := ((hx6.set (j := 0) (by simp) (.int .i64 0)).set (j := 1) (by simp) (.int .i64 (1 + q))).set (j := 2) (by simp) (.slice a5 p.length c5)
      have hbz := below_set3' (ext_trans HB4.out hb6) (Nat.le_refl _) (.int .i64 0) (.int .i64 (1 + q)) (.slice a5 p.length c5)
      have hsy := SlR.of_own (ownsRow_set3 ho6 hz4 (.int .i64 0) (.int .i64 (1 + q)) (.slice a5 p.length c5))
      have hzw : w3.heap.size < (((w6.setCell ⟨w3.heap.size, 0, none⟩ (.int .i64 0)).setCell ⟨w3.heap.size, 1, none⟩ (.int .i64 (1 + q))).setCell ⟨w3.heap.size, 2, none⟩ (.slice a5 p.length c5)).heap.size := by simpa using hz6
      clear hs6 ho6 hb6 hx6
      go_upto_region 16 with fail
      clear s0 s1 s2 x0 x1 x2 y0 y1 y2
      generalize ((w6.setCell ⟨w3.heap.size, 0, none⟩ (.int .i64 0)).setCell ⟨w3.heap.size, 1, none⟩ (.int .i64 (1 + q))).setCell ⟨w3.heap.size, 2, none⟩ (.slice a5 p.length c5) = wz at hxw hbz hsy hzw ⊢
      have HBW := Lib.hid hbz
      have HXW := Lib.hid hxw
      have HSY := Lib.hid hsy
      have HDE := HP3
      have HVY := HP2
      clear hxw hbz hsy
      have HFY := Lib.hid (sv_fit HVY.out)
      have HBL := Lib.hid (ext_trans HB3.out HBW.out)
      have HFI := Lib.hid (al_Find _ L wz (HG.out.below HBL.out) (HS.out.below HBL.out) HF.out (by omega))
      rw [find_goodA HALL.out] at HFI
      go_wp2_with fail
      refine HFI.out.mono ?_
      rintro e wa ⟨v1, v2, rfl, ho1, ho2, hba⟩
      dsimp only at ho1 ho2
      obtain ⟨hst, dd, hdd, hdl⟩ := find_adds (x := (0, (1 + q), p)) (u := u) (allV_of HALL.out) HVY.out (by rw [List.length_map]; exact hul) (by rw [HX.out]; exact HDE.out)
      have HAS := Lib.hid (show (L.map Prod.fst ++ [((0, (1 + q), p) : Sg)]).all svS = true by rw [List.all_append, HALL.out]; simp [HVY.out])
      have HF2 := Lib.hid (find_goodA HAS.out)
      have hsl : (storedR (L.map Prod.fst)).length ≤ L.length := by
        have := base_len (L.map Prod.fst)
        unfold baseR at this
        rwa [List.length_map, List.length_map] at this
      have hdln : (dersR (L.map Prod.fst ++ [((0, (1 + q), p) : Sg)])).length = L.length + 1 := by rw [ders_len]; simp
      rw [List.length_map] at hdd
      rw [hst] at HF2
      generalize storedR (L.map Prod.fst) = st at ho1 hst hdl HF2 hsl ⊢
      generalize dersR (L.map Prod.fst ++ [((0, (1 + q), p) : Sg)]) = d2 at hdd HF2 hdln
      generalize dersR (L.map Prod.fst) = d1 at ho2 ⊢
      obtain ⟨a1, c1, rfl, -, -⟩ := (SlR.of_own ho1).shape
      obtain ⟨a2, c2, rfl, -, -⟩ := ho2.shape
      have HO1 := Lib.hid (SlR.of_own ho1)
      have HBA := Lib.hid (ext_trans HBL.out hba)
      have HXA := Lib.hid (HXW.out.below hba hzw)
      have HSA := Lib.hid (HS.out.below HBA.out)
      have HYA := Lib.hid (HSY.out.below hba)
      have ca := (HXA.out).cell (j := 0) rfl
      have cb := (HXA.out).cell (j := 1) rfl
      have cc := (HXA.out).cell (j := 2) rfl
      have HD2 := Lib.hid hdln
      have HDD := Lib.hid hdd
      clear ho1 ho2 hba hst hdd hdln HFI
      have HXC := Lib.hid (And.intro ca (And.intro cb cc))
      obtain ⟨i0, hi, iz0, iz1, iz2⟩ := info_parts (P := Tryz.prog) sg_info
      have hone : ∀ v ∈ sgs L, v.oneCell' = true := HONE.out
      have hza : w3.heap.size < wa.heap.size := cell_lt ca
      have HR1 := Lib.hid (World.ownsRow_made wa #[] 0 (Nat.le_refl _) (Nat.zero_le _) rfl : (wa.alloc (.cells #[] 37)).ownsRow wa.heap.size 37 3 (.slice (some ⟨wa.heap.size, 0, none⟩) 0 0) 0 [])
      have HW1 := Lib.hid ((Below.refl wa.heap.size wa).alloc (Nat.le_refl _) (.cells #[] 37))
      have HR2 := Lib.hid (World.ownsRow.alloc HR1.out (.cells #[.int .i64 0, .int .i64 (1 + q), .slice a5 (p).length c5] 37))
      have HW2 := Lib.hid (HW1.out.alloc HW1.out.size (.cells #[.int .i64 0, .int .i64 (1 + q), .slice a5 (p).length c5] 37))
      have HX2 := Lib.hid (show OwnRow ((wa.alloc (.cells #[] 37)).alloc (.cells #[.int .i64 0, .int .i64 (1 + q), .slice a5 (p).length c5] 37)) (wa.heap.size + 1) [.int .i64 0, .int .i64 (1 + q), .slice a5 (p).length c5] from by
        have h := OwnRow.fresh (wa.alloc (.cells #[] 37)) #[.int .i64 0, .int .i64 (1 + q), .slice a5 (p).length c5] 37
        simp only [World.size_alloc] at h
        exact h)
      have HW3 := Lib.hid (((Below.refl wa.heap.size wa).alloc (Nat.le_refl _) (.cells #[.int .i64 0, .int .i64 (1 + q), .slice a5 (p).length c5] 37)).alloc (by simp) (.cells #[] 37))
      have HR3 := Lib.hid (show ((wa.alloc (.cells #[.int .i64 0, .int .i64 (1 + q), .slice a5 (p).length c5] 37)).alloc (.cells #[] 37)).ownsRow wa.heap.size 37 3 (.slice (some ⟨wa.heap.size + 1, 0, none⟩) 0 0) 0 [] from by
        have h : ((wa.alloc (.cells #[.int .i64 0, .int .i64 (1 + q), .slice a5 (p).length c5] 37)).alloc (.cells #[] 37)).ownsRow (wa.alloc (.cells #[.int .i64 0, .int .i64 (1 + q), .slice a5 (p).length c5] 37)).heap.size 37 3 (.slice (some ⟨(wa.alloc (.cells #[.int .i64 0, .int .i64 (1 + q), .slice a5 (p).length c5] 37)).heap.size, 0, none⟩) 0 0) 0 [] := World.ownsRow_made (wa.alloc (.cells #[.int .i64 0, .int .i64 (1 + q), .slice a5 (p).length c5] 37)) #[] 0 (Nat.le_refl _) (Nat.zero_le _) rfl
        simp only [World.size_alloc] at h
        exact ownsRow_base h (by omega))
      have HX3 := Lib.hid ((OwnRow.fresh wa #[.int .i64 0, .int .i64 (1 + q), .slice a5 (p).length c5] 37).alloc (by simp) (.cells #[] 37))
      have hzE : wa.heap.size < (wa.alloc (.cells #[] 37)).drew.heap.size := by
        show wa.heap.size < (wa.alloc (.cells #[] 37)).heap.size
        simp
      have hzX : wa.heap.size + 1 < ((wa.alloc (.cells #[] 37)).alloc (.cells #[.int .i64 0, .int .i64 (1 + q), .slice a5 (p).length c5] 37)).drew.heap.size := by
        show wa.heap.size + 1 < ((wa.alloc (.cells #[] 37)).alloc (.cells #[.int .i64 0, .int .i64 (1 + q), .slice a5 (p).length c5] 37)).heap.size
        simp
      have hzX3 : wa.heap.size < ((wa.alloc (.cells #[.int .i64 0, .int .i64 (1 + q), .slice a5 (p).length c5] 37)).alloc (.cells #[] 37)).drew.heap.size := by
        show wa.heap.size < ((wa.alloc (.cells #[.int .i64 0, .int .i64 (1 + q), .slice a5 (p).length c5] 37)).alloc (.cells #[] 37)).heap.size
        simp; omega
      go_upto_region 17 with fail
      go_region_held3 (fun w' => w'.cell? ⟨w3.heap.size, 0, none⟩ = some (.int .i64 0) ∧ w'.cell? ⟨w3.heap.size, 1, none⟩ = some (.int .i64 (1 + q)) ∧ w'.cell? ⟨w3.heap.size, 2, none⟩ = some (.slice a5 (p).length c5))
        (first | exact ⟨ca, cb, cc⟩ | exact ⟨ra, rb, rc⟩ | exact ⟨sa, sb, sc⟩ | exact ⟨ta, tb, tc⟩ | go_keep)
        (first
          | ((refine step_append_sl _ (by rfl) _ _ _ (by rfl) wa.heap.size 37 i0 (.agg #[.int .i64 0, .int .i64 0, .slice none 0 0]) 3 40 Tryz.underlying22 hi iz0 iz1 iz2 rfl (by decide) (.slice (some ⟨wa.heap.size, 0, none⟩) 0 0) 0 [] (by rfl) (by exact HR1.out.drew)
               _ L.length _ (sgs L) (by rfl) (by exact HSA.out.s.below HW1.out.drew) (by rw [sgs_len]; omega) hone (by unfold maxLen; omega) (by omega) (by exact HW1.out.drew.size) ?_); intro a9 c9 w9 ho9 hg9; have HB9 := Lib.hid (HW1.out.drew.grown hg9 HW1.out.drew.size (fun q hq => (HR1.out.lt q hq).1)); have hsz9 := HB9.out.size; have HO9 := Lib.hid (show w9.ownsRow wa.heap.size 37 3 (.slice a9 L.length c9) L.length (sgs L) by simpa using ho9); have HP9 := Lib.hid ho9; have ra := (HB9.out.cell (p := ⟨w3.heap.size, 0, none⟩) hza).trans HXC.out.1; have rb := (HB9.out.cell (p := ⟨w3.heap.size, 1, none⟩) hza).trans HXC.out.2.1; have rc := (HB9.out.cell (p := ⟨w3.heap.size, 2, none⟩) hza).trans HXC.out.2.2; have hpath1 : True := trivial; clear ho9 hg9)
          | ((refine step_append_sl _ (by rfl) _ _ _ (by rfl) wa.heap.size 37 i0 (.agg #[.int .i64 0, .int .i64 0, .slice none 0 0]) 3 40 Tryz.underlying22 hi iz0 iz1 iz2 rfl (by decide) (.slice (some ⟨wa.heap.size, 0, none⟩) 0 0) 0 [] (by rfl) (by exact HR2.out.drew)
               _ L.length _ (sgs L) (by rfl) (by exact HSA.out.s.below HW2.out.drew) (by rw [sgs_len]; omega) hone (by unfold maxLen; omega) (by omega) (by exact HW2.out.drew.size) ?_); intro a9 c9 w9 ho9 hg9; have HB9 := Lib.hid (HW2.out.drew.grown hg9 HW2.out.drew.size (fun q hq => (HR2.out.lt q hq).1)); have hsz9 := HB9.out.size; have HO9 := Lib.hid (show w9.ownsRow wa.heap.size 37 3 (.slice a9 L.length c9) L.length (sgs L) by simpa using ho9); have HP9 := Lib.hid ho9; have HN9 := Lib.hid (OwnRow.grown HX2.out.drew hg9 hzX (fun h => by simp [Value.ownBlock] at h)); have ra := (HB9.out.cell (p := ⟨w3.heap.size, 0, none⟩) hza).trans HXC.out.1; have rb := (HB9.out.cell (p := ⟨w3.heap.size, 1, none⟩) hza).trans HXC.out.2.1; have rc := (HB9.out.cell (p := ⟨w3.heap.size, 2, none⟩) hza).trans HXC.out.2.2; clear ho9 hg9)
          | ((refine step_append_sl _ (by rfl) _ _ _ (by rfl) wa.heap.size 37 i0 (.agg #[.int .i64 0, .int .i64 0, .slice none 0 0]) 3 40 Tryz.underlying22 hi iz0 iz1 iz2 rfl (by decide) (.slice (some ⟨wa.heap.size + 1, 0, none⟩) 0 0) 0 [] (by rfl) (by exact HR3.out.drew)
               _ L.length _ (sgs L) (by rfl) (by exact HSA.out.s.below HW3.out.drew) (by rw [sgs_len]; omega) hone (by unfold maxLen; omega) (by omega) (by exact HW3.out.drew.size) ?_); intro a9 c9 w9 ho9 hg9; have HB9 := Lib.hid (HW3.out.drew.grown hg9 HW3.out.drew.size (fun q hq => (HR3.out.lt q hq).1)); have hsz9 := HB9.out.size; have HO9 := Lib.hid (show w9.ownsRow wa.heap.size 37 3 (.slice a9 L.length c9) L.length (sgs L) by simpa using ho9); have HP9 := Lib.hid ho9; have HM9 := Lib.hid (OwnRow.grown HX3.out.drew hg9 hzX3 (fun h => by simp [Value.ownBlock] at h)); have ra := (HB9.out.cell (p := ⟨w3.heap.size, 0, none⟩) hza).trans HXC.out.1; have rb := (HB9.out.cell (p := ⟨w3.heap.size, 1, none⟩) hza).trans HXC.out.2.1; have rc := (HB9.out.cell (p := ⟨w3.heap.size, 2, none⟩) hza).trans HXC.out.2.2; clear ho9 hg9)
          | ((refine step_append_lies _ (by rfl) _ _ _ (by rfl) wa.heap.size 37 i0 _ 3 40 Tryz.underlying22 hi iz0 iz1 iz2 rfl (by omega) (.slice a9 L.length c9) L.length (sgs L) (by rfl) (by exact HO9.out.alloc _) ⟨w9.heap.size, 0, none⟩ 1 1 [.int .i64 0, .int .i64 (1 + q), .slice a5 (p).length c5] (by rfl) (by rfl) (World.news_of_block (cs := #[.int .i64 0, .int .i64 (1 + q), .slice a5 (p).length c5]) (t := 37) (fr := (0, 0)) (by exact heap_alloc_new w9 _)) (by simp [Value.oneCell']) (by omega) (by unfold maxLen; omega) (by omega) (by simp; omega) (w9.heap.size + 1) (by simp) ?_); have hp0 := hpath1; intro gg cap10 w10 hown1 hgrow hat hlt10; have HB10 := Lib.hid ((HB9.out.alloc HB9.out.size (.cells #[.int .i64 0, .int .i64 (1 + q), .slice a5 (p).length c5] 37)).grown hgrow (by simp; omega) (fun q hq => (HO9.out.lt q hq).1)); have HS10 := Lib.hid (adds_sigs (s := (0, (1 + q), p)) HSA.out HYA.out HB10.out hown1); have sa := (HB10.out.cell (p := ⟨w3.heap.size, 0, none⟩) hza).trans HXC.out.1; have sb := (HB10.out.cell (p := ⟨w3.heap.size, 1, none⟩) hza).trans HXC.out.2.1; have sc := (HB10.out.cell (p := ⟨w3.heap.size, 2, none⟩) hza).trans HXC.out.2.2; clear hown1 hgrow)
          | ((refine step_append_lies _ (by rfl) _ _ _ (by rfl) wa.heap.size 37 i0 _ 3 40 Tryz.underlying22 hi iz0 iz1 iz2 rfl (by omega) (.slice a9 (0 + L.length) c9) (0 + L.length) ([] ++ sgs L) (by rfl) (by exact HP9.out) ⟨wa.heap.size + 1, 0, none⟩ 1 1 [.int .i64 0, .int .i64 (1 + q), .slice a5 (p).length c5] (by rfl) (by rfl) (own_news HN9.out) (by simp [Value.oneCell']) (by omega) (by unfold maxLen; omega) (by omega) (by omega) (w9.heap.size) (by rfl) ?_); intro gg cap10 w10 hown1 hgrow hat hlt10; have HB10 := Lib.hid (HB9.out.grown hgrow (by omega) (fun q hq => (HP9.out.lt q hq).1)); have HS10 := Lib.hid (adds_sigs2 (s := (0, (1 + q), p)) HSA.out HYA.out HB10.out hown1); have sa := (HB10.out.cell (p := ⟨w3.heap.size, 0, none⟩) hza).trans HXC.out.1; have sb := (HB10.out.cell (p := ⟨w3.heap.size, 1, none⟩) hza).trans HXC.out.2.1; have sc := (HB10.out.cell (p := ⟨w3.heap.size, 2, none⟩) hza).trans HXC.out.2.2; clear hown1 hgrow)
          | ((refine step_append_lies _ (by rfl) _ _ _ (by rfl) wa.heap.size 37 i0 _ 3 40 Tryz.underlying22 hi iz0 iz1 iz2 rfl (by omega) (.slice a9 (0 + L.length) c9) (0 + L.length) ([] ++ sgs L) (by rfl) (by exact HP9.out) ⟨wa.heap.size, 0, none⟩ 1 1 [.int .i64 0, .int .i64 (1 + q), .slice a5 (p).length c5] (by rfl) (by rfl) (own_news HM9.out) (by simp [Value.oneCell']) (by omega) (by unfold maxLen; omega) (by omega) (by omega) (w9.heap.size) (by rfl) ?_); intro gg cap10 w10 hown1 hgrow hat hlt10; have HB10 := Lib.hid (HB9.out.grown hgrow (by omega) (fun q hq => (HP9.out.lt q hq).1)); have HS10 := Lib.hid (adds_sigs2 (s := (0, (1 + q), p)) HSA.out HYA.out HB10.out hown1); have sa := (HB10.out.cell (p := ⟨w3.heap.size, 0, none⟩) hza).trans HXC.out.1; have sb := (HB10.out.cell (p := ⟨w3.heap.size, 1, none⟩) hza).trans HXC.out.2.1; have sc := (HB10.out.cell (p := ⟨w3.heap.size, 2, none⟩) hza).trans HXC.out.2.2; clear hown1 hgrow)
          | (go_at_call 10; (with_reducible refine (adds_find HF2.out (HG.out.below (ext_trans HBA.out HB10.out)) HS10.out HF.out HFY.out (by omega)).mono ?_); rintro e w11 ⟨v11, v12, rfl, ho11, ho12, hb11⟩; obtain ⟨a11, c11, rfl, -, -⟩ := ho11.shape; obtain ⟨a12, c12, rfl, -, -⟩ := ho12.shape; have HO11 := Lib.hid ho11; have HD11 := Lib.hid ho12; have HB11 := Lib.hid (ext_trans HB10.out hb11); have ta := (HB11.out.cell (p := ⟨w3.heap.size, 0, none⟩) hza).trans HXC.out.1; have tb := (HB11.out.cell (p := ⟨w3.heap.size, 1, none⟩) hza).trans HXC.out.2.1; have tc := (HB11.out.cell (p := ⟨w3.heap.size, 2, none⟩) hza).trans HXC.out.2.2; clear ho11 ho12 hb11)
          | fail "no arm")
      all_goals
        (try (rename_i hh; clear hh))
        obtain ⟨b8, o8, e8, z0, -, -⟩ := dv_at HD11.out (show L.length < d2.length by rw [HD2.out]; omega)
        have hdat := HDD.out
        rw [List.getElem?_eq_getElem (by rw [HD2.out]; omega)] at hdat
        rw [Option.some.inj hdat] at z0
        subst e8
        have hlt : decide (dd.1 < (st.length : Int)) = true := by rw [decide_eq_true_iff]; exact hdl
        have hdb : ((d2.length : Int) == (L.length : Int) + 1) = true := by rw [beq_iff_eq, HD2.out]; omega
        have hww9 : IntKind.i64.wrap ((L.length : Int) + 1) = (L.length : Int) + 1 := IntWalk.i64_in _ (by omega)
        have hl2 : L.length < d2.length := by rw [HD2.out]; omega
        have HIN := Lib.hid (ref_Ints _ _ st st w11 (HO1.out.below HB11.out) HO11.out)
        rw [decide_eq_true (show st = st from rfl)] at HIN
        clear hdat hdl
        go_wp2_with fail
        refine HIN.out.mono ?_
        rintro e w12 ⟨rfl, hb12⟩
        have z0 := (hb12.cell (cell_lt z0)).trans z0
        have HB12 := Lib.hid (ext_trans (ext_trans HBA.out HB11.out) hb12)
        clear hb12
        go_wp2_with fail
        go_ret
        exact ⟨rfl, HB12.out⟩
    · have HIV := Lib.hid (sig_Invert 0 (1 + q) (.slice a5 p.length c5) p w6 (HG.out.below (ext_trans HB3.out (ext_trans HB4.out hb6))) (SlR.of_own ho6) (sv_fit HP2.out))
      rw [HQ11.out] at HIV
      have s0 := hs6.cell (j := 0) rfl
      have s1 := hs6.cell (j := 1) rfl
      have s2 := hs6.cell (j := 2) rfl
      clear hs6 ho6 hb6 hx6
      go_wp2_with fail
      refine HIV.out.mono ?_
      rintro e w7 ⟨v7, rfl, ho7, hb7⟩
      dsimp only at ho7 ⊢
      obtain ⟨a7, c7, rfl, -, -⟩ := (SlR.of_own ho7).shape
      clear s0 s1 s2 HIV
      have hs7 := HS6.out.below hb7 hDl
      have hx7 := HX6.out.below hb7 hz6
      have s0 := hs7.cell (j := 0) rfl
      have s1 := hs7.cell (j := 1) rfl
      have s2 := hs7.cell (j := 2) rfl
      have t0 := hs7.free (j := 0) (by simp)
      have t1 := hs7.free (j := 1) (by simp)
      have t2 := hs7.free (j := 2) (by simp)
      have hs8 := ((hs7.set (j := 0) (by simp) (.int .i64 0)).set (j := 1) (by simp) (.int .i64 (1 + q))).set (j := 2) (by simp) (.slice a7 qq.length c7)
      have hx8 := ((hx7.setOther (b' := D) (by omega) 0 (.int .i64 0)).setOther (b' := D) (by omega) 1 (.int .i64 (1 + q))).setOther (b' := D) (by omega) 2 (.slice a7 qq.length c7)
      have hb8 := below_set3' (ext_trans HB4.out (ext_trans HB6W.out hb7)) (show w3.heap.size ≤ D by omega) (.int .i64 0) (.int .i64 (1 + q)) (.slice a7 qq.length c7)
      have ho8 := ownsRow_set3 ho7 hDl (.int .i64 0) (.int .i64 (1 + q)) (.slice a7 qq.length c7)
      have hz8 : w3.heap.size < (((w7.setCell ⟨D, 0, none⟩ (.int .i64 0)).setCell ⟨D, 1, none⟩ (.int .i64 (1 + q))).setCell ⟨D, 2, none⟩ (.slice a7 qq.length c7)).heap.size := by have := hb7.size; simp; omega
      clear hs7 hx7 ho7 hb7
      go_upto_region 13 with fail
      clear s0 s1 s2 t0 t1 t2
      generalize ((w7.setCell ⟨D, 0, none⟩ (.int .i64 0)).setCell ⟨D, 1, none⟩ (.int .i64 (1 + q))).setCell ⟨D, 2, none⟩ (.slice a7 qq.length c7) = w8 at hs8 hx8 hb8 ho8 hz8 ⊢
      have s0 := hs8.cell (j := 0) rfl
      have s1 := hs8.cell (j := 1) rfl
      have s2 := hs8.cell (j := 2) rfl
      have x0 := hx8.cell (j := 0) rfl
      have x1 := hx8.cell (j := 1) rfl
      have x2 := hx8.cell (j := 2) rfl
      have y0 := hx8.free (j := 0) (by simp)
      have y1 := hx8.free (j := 1) (by simp)
      have y2 := hx8.free (j := 2) (by simp)
      have hxw := ((hx8.set (j := 0) (by simp) (.int .i64 0)).set (j := 1) (by simp) (.int .i64 (1 + q))).set (j := 2) (by simp) (.slice a7 qq.length c7)
      have hbz := below_set3' hb8 (Nat.le_refl _) (.int .i64 0) (.int .i64 (1 + q)) (.slice a7 qq.length c7)
      have hsy := SlR.of_own (ownsRow_set3 ho8 hz6 (.int .i64 0) (.int .i64 (1 + q)) (.slice a7 qq.length c7))
      have hzw : w3.heap.size < (((w8.setCell ⟨w3.heap.size, 0, none⟩ (.int .i64 0)).setCell ⟨w3.heap.size, 1, none⟩ (.int .i64 (1 + q))).setCell ⟨w3.heap.size, 2, none⟩ (.slice a7 qq.length c7)).heap.size := by simpa using hz8
      clear hs8 hx8 hb8 ho8
      go_upto_region 16 with fail
      clear s0 s1 s2 x0 x1 x2 y0 y1 y2
      generalize ((w8.setCell ⟨w3.heap.size, 0, none⟩ (.int .i64 0)).setCell ⟨w3.heap.size, 1, none⟩ (.int .i64 (1 + q))).setCell ⟨w3.heap.size, 2, none⟩ (.slice a7 qq.length c7) = wz at hxw hbz hsy hzw ⊢
      have HBW := Lib.hid hbz
      have HXW := Lib.hid hxw
      have HSY := Lib.hid hsy
      have HDE := HQ13
      have HVY := HQ12
      clear hxw hbz hsy
      have HFY := Lib.hid (sv_fit HVY.out)
      have HBL := Lib.hid (ext_trans HB3.out HBW.out)
      have HFI := Lib.hid (al_Find _ L wz (HG.out.below HBL.out) (HS.out.below HBL.out) HF.out (by omega))
      rw [find_goodA HALL.out] at HFI
      go_wp2_with fail
      refine HFI.out.mono ?_
      rintro e wa ⟨v1, v2, rfl, ho1, ho2, hba⟩
      dsimp only at ho1 ho2
      obtain ⟨hst, dd, hdd, hdl⟩ := find_adds (x := (0, (1 + q), qq)) (u := u) (allV_of HALL.out) HVY.out (by rw [List.length_map]; exact hul) (by rw [HX.out]; exact HDE.out)
      have HAS := Lib.hid (show (L.map Prod.fst ++ [((0, (1 + q), qq) : Sg)]).all svS = true by rw [List.all_append, HALL.out]; simp [HVY.out])
      have HF2 := Lib.hid (find_goodA HAS.out)
      have hsl : (storedR (L.map Prod.fst)).length ≤ L.length := by
        have := base_len (L.map Prod.fst)
        unfold baseR at this
        rwa [List.length_map, List.length_map] at this
      have hdln : (dersR (L.map Prod.fst ++ [((0, (1 + q), qq) : Sg)])).length = L.length + 1 := by rw [ders_len]; simp
      rw [List.length_map] at hdd
      rw [hst] at HF2
      generalize storedR (L.map Prod.fst) = st at ho1 hst hdl HF2 hsl ⊢
      generalize dersR (L.map Prod.fst ++ [((0, (1 + q), qq) : Sg)]) = d2 at hdd HF2 hdln
      generalize dersR (L.map Prod.fst) = d1 at ho2 ⊢
      obtain ⟨a1, c1, rfl, -, -⟩ := (SlR.of_own ho1).shape
      obtain ⟨a2, c2, rfl, -, -⟩ := ho2.shape
      have HO1 := Lib.hid (SlR.of_own ho1)
      have HBA := Lib.hid (ext_trans HBL.out hba)
      have HXA := Lib.hid (HXW.out.below hba hzw)
      have HSA := Lib.hid (HS.out.below HBA.out)
      have HYA := Lib.hid (HSY.out.below hba)
      have ca := (HXA.out).cell (j := 0) rfl
      have cb := (HXA.out).cell (j := 1) rfl
      have cc := (HXA.out).cell (j := 2) rfl
      have HD2 := Lib.hid hdln
      have HDD := Lib.hid hdd
      clear ho1 ho2 hba hst hdd hdln HFI
      have HXC := Lib.hid (And.intro ca (And.intro cb cc))
      obtain ⟨i0, hi, iz0, iz1, iz2⟩ := info_parts (P := Tryz.prog) sg_info
      have hone : ∀ v ∈ sgs L, v.oneCell' = true := HONE.out
      have hza : w3.heap.size < wa.heap.size := cell_lt ca
      have HR1 := Lib.hid (World.ownsRow_made wa #[] 0 (Nat.le_refl _) (Nat.zero_le _) rfl : (wa.alloc (.cells #[] 37)).ownsRow wa.heap.size 37 3 (.slice (some ⟨wa.heap.size, 0, none⟩) 0 0) 0 [])
      have HW1 := Lib.hid ((Below.refl wa.heap.size wa).alloc (Nat.le_refl _) (.cells #[] 37))
      have HR2 := Lib.hid (World.ownsRow.alloc HR1.out (.cells #[.int .i64 0, .int .i64 (1 + q), .slice a7 (qq).length c7] 37))
      have HW2 := Lib.hid (HW1.out.alloc HW1.out.size (.cells #[.int .i64 0, .int .i64 (1 + q), .slice a7 (qq).length c7] 37))
      have HX2 := Lib.hid (show OwnRow ((wa.alloc (.cells #[] 37)).alloc (.cells #[.int .i64 0, .int .i64 (1 + q), .slice a7 (qq).length c7] 37)) (wa.heap.size + 1) [.int .i64 0, .int .i64 (1 + q), .slice a7 (qq).length c7] from by
        have h := OwnRow.fresh (wa.alloc (.cells #[] 37)) #[.int .i64 0, .int .i64 (1 + q), .slice a7 (qq).length c7] 37
        simp only [World.size_alloc] at h
        exact h)
      have HW3 := Lib.hid (((Below.refl wa.heap.size wa).alloc (Nat.le_refl _) (.cells #[.int .i64 0, .int .i64 (1 + q), .slice a7 (qq).length c7] 37)).alloc (by simp) (.cells #[] 37))
      have HR3 := Lib.hid (show ((wa.alloc (.cells #[.int .i64 0, .int .i64 (1 + q), .slice a7 (qq).length c7] 37)).alloc (.cells #[] 37)).ownsRow wa.heap.size 37 3 (.slice (some ⟨wa.heap.size + 1, 0, none⟩) 0 0) 0 [] from by
        have h : ((wa.alloc (.cells #[.int .i64 0, .int .i64 (1 + q), .slice a7 (qq).length c7] 37)).alloc (.cells #[] 37)).ownsRow (wa.alloc (.cells #[.int .i64 0, .int .i64 (1 + q), .slice a7 (qq).length c7] 37)).heap.size 37 3 (.slice (some ⟨(wa.alloc (.cells #[.int .i64 0, .int .i64 (1 + q), .slice a7 (qq).length c7] 37)).heap.size, 0, none⟩) 0 0) 0 [] := World.ownsRow_made (wa.alloc (.cells #[.int .i64 0, .int .i64 (1 + q), .slice a7 (qq).length c7] 37)) #[] 0 (Nat.le_refl _) (Nat.zero_le _) rfl
        simp only [World.size_alloc] at h
        exact ownsRow_base h (by omega))
      have HX3 := Lib.hid ((OwnRow.fresh wa #[.int .i64 0, .int .i64 (1 + q), .slice a7 (qq).length c7] 37).alloc (by simp) (.cells #[] 37))
      have hzE : wa.heap.size < (wa.alloc (.cells #[] 37)).drew.heap.size := by
        show wa.heap.size < (wa.alloc (.cells #[] 37)).heap.size
        simp
      have hzX : wa.heap.size + 1 < ((wa.alloc (.cells #[] 37)).alloc (.cells #[.int .i64 0, .int .i64 (1 + q), .slice a7 (qq).length c7] 37)).drew.heap.size := by
        show wa.heap.size + 1 < ((wa.alloc (.cells #[] 37)).alloc (.cells #[.int .i64 0, .int .i64 (1 + q), .slice a7 (qq).length c7] 37)).heap.size
        simp
      have hzX3 : wa.heap.size < ((wa.alloc (.cells #[.int .i64 0, .int .i64 (1 + q), .slice a7 (qq).length c7] 37)).alloc (.cells #[] 37)).drew.heap.size := by
        show wa.heap.size < ((wa.alloc (.cells #[.int .i64 0, .int .i64 (1 + q), .slice a7 (qq).length c7] 37)).alloc (.cells #[] 37)).heap.size
        simp; omega
      go_upto_region 17 with fail
      go_region_held3 (fun w' => w'.cell? ⟨w3.heap.size, 0, none⟩ = some (.int .i64 0) ∧ w'.cell? ⟨w3.heap.size, 1, none⟩ = some (.int .i64 (1 + q)) ∧ w'.cell? ⟨w3.heap.size, 2, none⟩ = some (.slice a7 (qq).length c7))
        (first | exact ⟨ca, cb, cc⟩ | exact ⟨ra, rb, rc⟩ | exact ⟨sa, sb, sc⟩ | exact ⟨ta, tb, tc⟩ | go_keep)
        (first
          | ((refine step_append_sl _ (by rfl) _ _ _ (by rfl) wa.heap.size 37 i0 (.agg #[.int .i64 0, .int .i64 0, .slice none 0 0]) 3 40 Tryz.underlying22 hi iz0 iz1 iz2 rfl (by decide) (.slice (some ⟨wa.heap.size, 0, none⟩) 0 0) 0 [] (by rfl) (by exact HR1.out.drew)
               _ L.length _ (sgs L) (by rfl) (by exact HSA.out.s.below HW1.out.drew) (by rw [sgs_len]; omega) hone (by unfold maxLen; omega) (by omega) (by exact HW1.out.drew.size) ?_); intro a9 c9 w9 ho9 hg9; have HB9 := Lib.hid (HW1.out.drew.grown hg9 HW1.out.drew.size (fun q hq => (HR1.out.lt q hq).1)); have hsz9 := HB9.out.size; have HO9 := Lib.hid (show w9.ownsRow wa.heap.size 37 3 (.slice a9 L.length c9) L.length (sgs L) by simpa using ho9); have HP9 := Lib.hid ho9; have ra := (HB9.out.cell (p := ⟨w3.heap.size, 0, none⟩) hza).trans HXC.out.1; have rb := (HB9.out.cell (p := ⟨w3.heap.size, 1, none⟩) hza).trans HXC.out.2.1; have rc := (HB9.out.cell (p := ⟨w3.heap.size, 2, none⟩) hza).trans HXC.out.2.2; have hpath1 : True := trivial; clear ho9 hg9)
          | ((refine step_append_sl _ (by rfl) _ _ _ (by rfl) wa.heap.size 37 i0 (.agg #[.int .i64 0, .int .i64 0, .slice none 0 0]) 3 40 Tryz.underlying22 hi iz0 iz1 iz2 rfl (by decide) (.slice (some ⟨wa.heap.size, 0, none⟩) 0 0) 0 [] (by rfl) (by exact HR2.out.drew)
               _ L.length _ (sgs L) (by rfl) (by exact HSA.out.s.below HW2.out.drew) (by rw [sgs_len]; omega) hone (by unfold maxLen; omega) (by omega) (by exact HW2.out.drew.size) ?_); intro a9 c9 w9 ho9 hg9; have HB9 := Lib.hid (HW2.out.drew.grown hg9 HW2.out.drew.size (fun q hq => (HR2.out.lt q hq).1)); have hsz9 := HB9.out.size; have HO9 := Lib.hid (show w9.ownsRow wa.heap.size 37 3 (.slice a9 L.length c9) L.length (sgs L) by simpa using ho9); have HP9 := Lib.hid ho9; have HN9 := Lib.hid (OwnRow.grown HX2.out.drew hg9 hzX (fun h => by simp [Value.ownBlock] at h)); have ra := (HB9.out.cell (p := ⟨w3.heap.size, 0, none⟩) hza).trans HXC.out.1; have rb := (HB9.out.cell (p := ⟨w3.heap.size, 1, none⟩) hza).trans HXC.out.2.1; have rc := (HB9.out.cell (p := ⟨w3.heap.size, 2, none⟩) hza).trans HXC.out.2.2; clear ho9 hg9)
          | ((refine step_append_sl _ (by rfl) _ _ _ (by rfl) wa.heap.size 37 i0 (.agg #[.int .i64 0, .int .i64 0, .slice none 0 0]) 3 40 Tryz.underlying22 hi iz0 iz1 iz2 rfl (by decide) (.slice (some ⟨wa.heap.size + 1, 0, none⟩) 0 0) 0 [] (by rfl) (by exact HR3.out.drew)
               _ L.length _ (sgs L) (by rfl) (by exact HSA.out.s.below HW3.out.drew) (by rw [sgs_len]; omega) hone (by unfold maxLen; omega) (by omega) (by exact HW3.out.drew.size) ?_); intro a9 c9 w9 ho9 hg9; have HB9 := Lib.hid (HW3.out.drew.grown hg9 HW3.out.drew.size (fun q hq => (HR3.out.lt q hq).1)); have hsz9 := HB9.out.size; have HO9 := Lib.hid (show w9.ownsRow wa.heap.size 37 3 (.slice a9 L.length c9) L.length (sgs L) by simpa using ho9); have HP9 := Lib.hid ho9; have HM9 := Lib.hid (OwnRow.grown HX3.out.drew hg9 hzX3 (fun h => by simp [Value.ownBlock] at h)); have ra := (HB9.out.cell (p := ⟨w3.heap.size, 0, none⟩) hza).trans HXC.out.1; have rb := (HB9.out.cell (p := ⟨w3.heap.size, 1, none⟩) hza).trans HXC.out.2.1; have rc := (HB9.out.cell (p := ⟨w3.heap.size, 2, none⟩) hza).trans HXC.out.2.2; clear ho9 hg9)
          | ((refine step_append_lies _ (by rfl) _ _ _ (by rfl) wa.heap.size 37 i0 _ 3 40 Tryz.underlying22 hi iz0 iz1 iz2 rfl (by omega) (.slice a9 L.length c9) L.length (sgs L) (by rfl) (by exact HO9.out.alloc _) ⟨w9.heap.size, 0, none⟩ 1 1 [.int .i64 0, .int .i64 (1 + q), .slice a7 (qq).length c7] (by rfl) (by rfl) (World.news_of_block (cs := #[.int .i64 0, .int .i64 (1 + q), .slice a7 (qq).length c7]) (t := 37) (fr := (0, 0)) (by exact heap_alloc_new w9 _)) (by simp [Value.oneCell']) (by omega) (by unfold maxLen; omega) (by omega) (by simp; omega) (w9.heap.size + 1) (by simp) ?_); have hp0 := hpath1; intro gg cap10 w10 hown1 hgrow hat hlt10; have HB10 := Lib.hid ((HB9.out.alloc HB9.out.size (.cells #[.int .i64 0, .int .i64 (1 + q), .slice a7 (qq).length c7] 37)).grown hgrow (by simp; omega) (fun q hq => (HO9.out.lt q hq).1)); have HS10 := Lib.hid (adds_sigs (s := (0, (1 + q), qq)) HSA.out HYA.out HB10.out hown1); have sa := (HB10.out.cell (p := ⟨w3.heap.size, 0, none⟩) hza).trans HXC.out.1; have sb := (HB10.out.cell (p := ⟨w3.heap.size, 1, none⟩) hza).trans HXC.out.2.1; have sc := (HB10.out.cell (p := ⟨w3.heap.size, 2, none⟩) hza).trans HXC.out.2.2; clear hown1 hgrow)
          | ((refine step_append_lies _ (by rfl) _ _ _ (by rfl) wa.heap.size 37 i0 _ 3 40 Tryz.underlying22 hi iz0 iz1 iz2 rfl (by omega) (.slice a9 (0 + L.length) c9) (0 + L.length) ([] ++ sgs L) (by rfl) (by exact HP9.out) ⟨wa.heap.size + 1, 0, none⟩ 1 1 [.int .i64 0, .int .i64 (1 + q), .slice a7 (qq).length c7] (by rfl) (by rfl) (own_news HN9.out) (by simp [Value.oneCell']) (by omega) (by unfold maxLen; omega) (by omega) (by omega) (w9.heap.size) (by rfl) ?_); intro gg cap10 w10 hown1 hgrow hat hlt10; have HB10 := Lib.hid (HB9.out.grown hgrow (by omega) (fun q hq => (HP9.out.lt q hq).1)); have HS10 := Lib.hid (adds_sigs2 (s := (0, (1 + q), qq)) HSA.out HYA.out HB10.out hown1); have sa := (HB10.out.cell (p := ⟨w3.heap.size, 0, none⟩) hza).trans HXC.out.1; have sb := (HB10.out.cell (p := ⟨w3.heap.size, 1, none⟩) hza).trans HXC.out.2.1; have sc := (HB10.out.cell (p := ⟨w3.heap.size, 2, none⟩) hza).trans HXC.out.2.2; clear hown1 hgrow)
          | ((refine step_append_lies _ (by rfl) _ _ _ (by rfl) wa.heap.size 37 i0 _ 3 40 Tryz.underlying22 hi iz0 iz1 iz2 rfl (by omega) (.slice a9 (0 + L.length) c9) (0 + L.length) ([] ++ sgs L) (by rfl) (by exact HP9.out) ⟨wa.heap.size, 0, none⟩ 1 1 [.int .i64 0, .int .i64 (1 + q), .slice a7 (qq).length c7] (by rfl) (by rfl) (own_news HM9.out) (by simp [Value.oneCell']) (by omega) (by unfold maxLen; omega) (by omega) (by omega) (w9.heap.size) (by rfl) ?_); intro gg cap10 w10 hown1 hgrow hat hlt10; have HB10 := Lib.hid (HB9.out.grown hgrow (by omega) (fun q hq => (HP9.out.lt q hq).1)); have HS10 := Lib.hid (adds_sigs2 (s := (0, (1 + q), qq)) HSA.out HYA.out HB10.out hown1); have sa := (HB10.out.cell (p := ⟨w3.heap.size, 0, none⟩) hza).trans HXC.out.1; have sb := (HB10.out.cell (p := ⟨w3.heap.size, 1, none⟩) hza).trans HXC.out.2.1; have sc := (HB10.out.cell (p := ⟨w3.heap.size, 2, none⟩) hza).trans HXC.out.2.2; clear hown1 hgrow)
          | (go_at_call 10; (with_reducible refine (adds_find HF2.out (HG.out.below (ext_trans HBA.out HB10.out)) HS10.out HF.out HFY.out (by omega)).mono ?_); rintro e w11 ⟨v11, v12, rfl, ho11, ho12, hb11⟩; obtain ⟨a11, c11, rfl, -, -⟩ := ho11.shape; obtain ⟨a12, c12, rfl, -, -⟩ := ho12.shape; have HO11 := Lib.hid ho11; have HD11 := Lib.hid ho12; have HB11 := Lib.hid (ext_trans HB10.out hb11); have ta := (HB11.out.cell (p := ⟨w3.heap.size, 0, none⟩) hza).trans HXC.out.1; have tb := (HB11.out.cell (p := ⟨w3.heap.size, 1, none⟩) hza).trans HXC.out.2.1; have tc := (HB11.out.cell (p := ⟨w3.heap.size, 2, none⟩) hza).trans HXC.out.2.2; clear ho11 ho12 hb11)
          | fail "no arm")
      all_goals
        (try (rename_i hh; clear hh))
        obtain ⟨b8, o8, e8, z0, -, -⟩ := dv_at HD11.out (show L.length < d2.length by rw [HD2.out]; omega)
        have hdat := HDD.out
        rw [List.getElem?_eq_getElem (by rw [HD2.out]; omega)] at hdat
        rw [Option.some.inj hdat] at z0
        subst e8
        have hlt : decide (dd.1 < (st.length : Int)) = true := by rw [decide_eq_true_iff]; exact hdl
        have hdb : ((d2.length : Int) == (L.length : Int) + 1) = true := by rw [beq_iff_eq, HD2.out]; omega
        have hww9 : IntKind.i64.wrap ((L.length : Int) + 1) = (L.length : Int) + 1 := IntWalk.i64_in _ (by omega)
        have hl2 : L.length < d2.length := by rw [HD2.out]; omega
        have HIN := Lib.hid (ref_Ints _ _ st st w11 (HO1.out.below HB11.out) HO11.out)
        rw [decide_eq_true (show st = st from rfl)] at HIN
        clear hdat hdl
        go_wp2_with fail
        refine HIN.out.mono ?_
        rintro e w12 ⟨rfl, hb12⟩
        have z0 := (hb12.cell (cell_lt z0)).trans z0
        have HB12 := Lib.hid (ext_trans (ext_trans HBA.out HB11.out) hb12)
        clear hb12
        go_wp2_with fail
        go_ret
        exact ⟨rfl, HB12.out⟩
  · rename_i hh
    clear hh
    have hb6 := below_set3' B6.out (Nat.le_refl _) (.int .i64 0) (.int .i64 (1 + q)) (.slice a5 p.length c5)
    have ho6 := ownsRow_base (base' := w4.heap.size) (ownsRow_set3 HO5.out (show w4.heap.size < _ from hlx) (.int .i64 0) (.int .i64 (1 + q)) (.slice a5 p.length c5)) (Nat.le_of_lt hlx)
    have hs6 := ((HX5.out.set (j := 0) (by simp) (.int .i64 0)).set (j := 1) (by simp) (.int .i64 (1 + q))).set (j := 2) (by simp) (.slice a5 p.length c5)
    have hDl : w4.heap.size < (((w5.setCell ⟨w4.heap.size, 0, none⟩ (.int .i64 0)).setCell ⟨w4.heap.size, 1, none⟩ (.int .i64 (1 + q))).setCell ⟨w4.heap.size, 2, none⟩ (.slice a5 p.length c5)).heap.size := by simpa using hl5
    clear v0 v1 v2 hx40 hx41 hx42 hlx HSL hx5 x5 x6 x7 z0 z1 z2
    generalize ((w5.setCell ⟨w4.heap.size, 0, none⟩ (.int .i64 0)).setCell ⟨w4.heap.size, 1, none⟩ (.int .i64 (1 + q))).setCell ⟨w4.heap.size, 2, none⟩ (.slice a5 p.length c5) = w6 at hb6 ho6 hs6 hDl ⊢
    obtain ⟨D, hD⟩ : ∃ D, D = w4.heap.size := ⟨_, rfl⟩
    rw [← hD] at hs6 hDl ⊢
    have hDg : w4.heap.size ≤ D := by omega
    clear hD
    have HS6 := Lib.hid hs6
    have HO6 := Lib.hid ho6
    have HB6W := Lib.hid hb6
    have hx6 := HX4.out.below hb6 hz4
    have hz6 : w3.heap.size < w6.heap.size := by have := hb6.size; omega
    have HX6 := Lib.hid hx6
    cases inv
    · have s0 := hs6.cell (j := 0) rfl
      have s1 := hs6.cell (j := 1) rfl
      have s2 := hs6.cell (j := 2) rfl
      have x0 := hx6.cell (j := 0) rfl
      have x1 := hx6.cell (j := 1) rfl
      have x2 := hx6.cell (j := 2) rfl
      have y0 := hx6.free (j := 0) (by simp)
      have y1 := hx6.free (j := 1) (by simp)
      have y2 := hx6.free (j := 2) (by simp)
      have hxw := ((hx6.set (j := 0) (by simp) (.int .i64 0)).set (j := 1) (by simp) (.int .i64 (1 + q))).set (j := 2) (by simp) (.slice a5 p.length c5)
      have hbz := below_set3' (ext_trans HB4.out hb6) (Nat.le_refl _) (.int .i64 0) (.int .i64 (1 + q)) (.slice a5 p.length c5)
      have hsy := SlR.of_own (ownsRow_set3 ho6 hz4 (.int .i64 0) (.int .i64 (1 + q)) (.slice a5 p.length c5))
      have hzw : w3.heap.size < (((w6.setCell ⟨w3.heap.size, 0, none⟩ (.int .i64 0)).setCell ⟨w3.heap.size, 1, none⟩ (.int .i64 (1 + q))).setCell ⟨w3.heap.size, 2, none⟩ (.slice a5 p.length c5)).heap.size := by simpa using hz6
      clear hs6 ho6 hb6 hx6
      go_upto_region 16 with fail
      clear s0 s1 s2 x0 x1 x2 y0 y1 y2
      generalize ((w6.setCell ⟨w3.heap.size, 0, none⟩ (.int .i64 0)).setCell ⟨w3.heap.size, 1, none⟩ (.int .i64 (1 + q))).setCell ⟨w3.heap.size, 2, none⟩ (.slice a5 p.length c5) = wz at hxw hbz hsy hzw ⊢
      have HBW := Lib.hid hbz
      have HXW := Lib.hid hxw
      have HSY := Lib.hid hsy
      have HDE := HP3
      have HVY := HP2
      clear hxw hbz hsy
      have HFY := Lib.hid (sv_fit HVY.out)
      have HBL := Lib.hid (ext_trans HB3.out HBW.out)
      have HFI := Lib.hid (al_Find _ L wz (HG.out.below HBL.out) (HS.out.below HBL.out) HF.out (by omega))
      rw [find_goodA HALL.out] at HFI
      go_wp2_with fail
      refine HFI.out.mono ?_
      rintro e wa ⟨v1, v2, rfl, ho1, ho2, hba⟩
      dsimp only at ho1 ho2
      obtain ⟨hst, dd, hdd, hdl⟩ := find_adds (x := (0, (1 + q), p)) (u := u) (allV_of HALL.out) HVY.out (by rw [List.length_map]; exact hul) (by rw [HX.out]; exact HDE.out)
      have HAS := Lib.hid (show (L.map Prod.fst ++ [((0, (1 + q), p) : Sg)]).all svS = true by rw [List.all_append, HALL.out]; simp [HVY.out])
      have HF2 := Lib.hid (find_goodA HAS.out)
      have hsl : (storedR (L.map Prod.fst)).length ≤ L.length := by
        have := base_len (L.map Prod.fst)
        unfold baseR at this
        rwa [List.length_map, List.length_map] at this
      have hdln : (dersR (L.map Prod.fst ++ [((0, (1 + q), p) : Sg)])).length = L.length + 1 := by rw [ders_len]; simp
      rw [List.length_map] at hdd
      rw [hst] at HF2
      generalize storedR (L.map Prod.fst) = st at ho1 hst hdl HF2 hsl ⊢
      generalize dersR (L.map Prod.fst ++ [((0, (1 + q), p) : Sg)]) = d2 at hdd HF2 hdln
      generalize dersR (L.map Prod.fst) = d1 at ho2 ⊢
      obtain ⟨a1, c1, rfl, -, -⟩ := (SlR.of_own ho1).shape
      obtain ⟨a2, c2, rfl, -, -⟩ := ho2.shape
      have HO1 := Lib.hid (SlR.of_own ho1)
      have HBA := Lib.hid (ext_trans HBL.out hba)
      have HXA := Lib.hid (HXW.out.below hba hzw)
      have HSA := Lib.hid (HS.out.below HBA.out)
      have HYA := Lib.hid (HSY.out.below hba)
      have ca := (HXA.out).cell (j := 0) rfl
      have cb := (HXA.out).cell (j := 1) rfl
      have cc := (HXA.out).cell (j := 2) rfl
      have HD2 := Lib.hid hdln
      have HDD := Lib.hid hdd
      clear ho1 ho2 hba hst hdd hdln HFI
      have HXC := Lib.hid (And.intro ca (And.intro cb cc))
      obtain ⟨i0, hi, iz0, iz1, iz2⟩ := info_parts (P := Tryz.prog) sg_info
      have hone : ∀ v ∈ sgs L, v.oneCell' = true := HONE.out
      have hza : w3.heap.size < wa.heap.size := cell_lt ca
      have HR1 := Lib.hid (World.ownsRow_made wa #[] 0 (Nat.le_refl _) (Nat.zero_le _) rfl : (wa.alloc (.cells #[] 37)).ownsRow wa.heap.size 37 3 (.slice (some ⟨wa.heap.size, 0, none⟩) 0 0) 0 [])
      have HW1 := Lib.hid ((Below.refl wa.heap.size wa).alloc (Nat.le_refl _) (.cells #[] 37))
      have HR2 := Lib.hid (World.ownsRow.alloc HR1.out (.cells #[.int .i64 0, .int .i64 (1 + q), .slice a5 (p).length c5] 37))
      have HW2 := Lib.hid (HW1.out.alloc HW1.out.size (.cells #[.int .i64 0, .int .i64 (1 + q), .slice a5 (p).length c5] 37))
      have HX2 := Lib.hid (show OwnRow ((wa.alloc (.cells #[] 37)).alloc (.cells #[.int .i64 0, .int .i64 (1 + q), .slice a5 (p).length c5] 37)) (wa.heap.size + 1) [.int .i64 0, .int .i64 (1 + q), .slice a5 (p).length c5] from by
        have h := OwnRow.fresh (wa.alloc (.cells #[] 37)) #[.int .i64 0, .int .i64 (1 + q), .slice a5 (p).length c5] 37
        simp only [World.size_alloc] at h
        exact h)
      have HW3 := Lib.hid (((Below.refl wa.heap.size wa).alloc (Nat.le_refl _) (.cells #[.int .i64 0, .int .i64 (1 + q), .slice a5 (p).length c5] 37)).alloc (by simp) (.cells #[] 37))
      have HR3 := Lib.hid (show ((wa.alloc (.cells #[.int .i64 0, .int .i64 (1 + q), .slice a5 (p).length c5] 37)).alloc (.cells #[] 37)).ownsRow wa.heap.size 37 3 (.slice (some ⟨wa.heap.size + 1, 0, none⟩) 0 0) 0 [] from by
        have h : ((wa.alloc (.cells #[.int .i64 0, .int .i64 (1 + q), .slice a5 (p).length c5] 37)).alloc (.cells #[] 37)).ownsRow (wa.alloc (.cells #[.int .i64 0, .int .i64 (1 + q), .slice a5 (p).length c5] 37)).heap.size 37 3 (.slice (some ⟨(wa.alloc (.cells #[.int .i64 0, .int .i64 (1 + q), .slice a5 (p).length c5] 37)).heap.size, 0, none⟩) 0 0) 0 [] := World.ownsRow_made (wa.alloc (.cells #[.int .i64 0, .int .i64 (1 + q), .slice a5 (p).length c5] 37)) #[] 0 (Nat.le_refl _) (Nat.zero_le _) rfl
        simp only [World.size_alloc] at h
        exact ownsRow_base h (by omega))
      have HX3 := Lib.hid ((OwnRow.fresh wa #[.int .i64 0, .int .i64 (1 + q), .slice a5 (p).length c5] 37).alloc (by simp) (.cells #[] 37))
      have hzE : wa.heap.size < (wa.alloc (.cells #[] 37)).drew.heap.size := by
        show wa.heap.size < (wa.alloc (.cells #[] 37)).heap.size
        simp
      have hzX : wa.heap.size + 1 < ((wa.alloc (.cells #[] 37)).alloc (.cells #[.int .i64 0, .int .i64 (1 + q), .slice a5 (p).length c5] 37)).drew.heap.size := by
        show wa.heap.size + 1 < ((wa.alloc (.cells #[] 37)).alloc (.cells #[.int .i64 0, .int .i64 (1 + q), .slice a5 (p).length c5] 37)).heap.size
        simp
      have hzX3 : wa.heap.size < ((wa.alloc (.cells #[.int .i64 0, .int .i64 (1 + q), .slice a5 (p).length c5] 37)).alloc (.cells #[] 37)).drew.heap.size := by
        show wa.heap.size < ((wa.alloc (.cells #[.int .i64 0, .int .i64 (1 + q), .slice a5 (p).length c5] 37)).alloc (.cells #[] 37)).heap.size
        simp; omega
      go_upto_region 17 with fail
      go_region_held3 (fun w' => w'.cell? ⟨w3.heap.size, 0, none⟩ = some (.int .i64 0) ∧ w'.cell? ⟨w3.heap.size, 1, none⟩ = some (.int .i64 (1 + q)) ∧ w'.cell? ⟨w3.heap.size, 2, none⟩ = some (.slice a5 (p).length c5))
        (first | exact ⟨ca, cb, cc⟩ | exact ⟨ra, rb, rc⟩ | exact ⟨sa, sb, sc⟩ | exact ⟨ta, tb, tc⟩ | go_keep)
        (first
          | ((refine step_append_sl _ (by rfl) _ _ _ (by rfl) wa.heap.size 37 i0 (.agg #[.int .i64 0, .int .i64 0, .slice none 0 0]) 3 40 Tryz.underlying22 hi iz0 iz1 iz2 rfl (by decide) (.slice (some ⟨wa.heap.size, 0, none⟩) 0 0) 0 [] (by rfl) (by exact HR1.out.drew)
               _ L.length _ (sgs L) (by rfl) (by exact HSA.out.s.below HW1.out.drew) (by rw [sgs_len]; omega) hone (by unfold maxLen; omega) (by omega) (by exact HW1.out.drew.size) ?_); intro a9 c9 w9 ho9 hg9; have HB9 := Lib.hid (HW1.out.drew.grown hg9 HW1.out.drew.size (fun q hq => (HR1.out.lt q hq).1)); have hsz9 := HB9.out.size; have HO9 := Lib.hid (show w9.ownsRow wa.heap.size 37 3 (.slice a9 L.length c9) L.length (sgs L) by simpa using ho9); have HP9 := Lib.hid ho9; have ra := (HB9.out.cell (p := ⟨w3.heap.size, 0, none⟩) hza).trans HXC.out.1; have rb := (HB9.out.cell (p := ⟨w3.heap.size, 1, none⟩) hza).trans HXC.out.2.1; have rc := (HB9.out.cell (p := ⟨w3.heap.size, 2, none⟩) hza).trans HXC.out.2.2; have hpath1 : True := trivial; clear ho9 hg9)
          | ((refine step_append_sl _ (by rfl) _ _ _ (by rfl) wa.heap.size 37 i0 (.agg #[.int .i64 0, .int .i64 0, .slice none 0 0]) 3 40 Tryz.underlying22 hi iz0 iz1 iz2 rfl (by decide) (.slice (some ⟨wa.heap.size, 0, none⟩) 0 0) 0 [] (by rfl) (by exact HR2.out.drew)
               _ L.length _ (sgs L) (by rfl) (by exact HSA.out.s.below HW2.out.drew) (by rw [sgs_len]; omega) hone (by unfold maxLen; omega) (by omega) (by exact HW2.out.drew.size) ?_); intro a9 c9 w9 ho9 hg9; have HB9 := Lib.hid (HW2.out.drew.grown hg9 HW2.out.drew.size (fun q hq => (HR2.out.lt q hq).1)); have hsz9 := HB9.out.size; have HO9 := Lib.hid (show w9.ownsRow wa.heap.size 37 3 (.slice a9 L.length c9) L.length (sgs L) by simpa using ho9); have HP9 := Lib.hid ho9; have HN9 := Lib.hid (OwnRow.grown HX2.out.drew hg9 hzX (fun h => by simp [Value.ownBlock] at h)); have ra := (HB9.out.cell (p := ⟨w3.heap.size, 0, none⟩) hza).trans HXC.out.1; have rb := (HB9.out.cell (p := ⟨w3.heap.size, 1, none⟩) hza).trans HXC.out.2.1; have rc := (HB9.out.cell (p := ⟨w3.heap.size, 2, none⟩) hza).trans HXC.out.2.2; clear ho9 hg9)
          | ((refine step_append_sl _ (by rfl) _ _ _ (by rfl) wa.heap.size 37 i0 (.agg #[.int .i64 0, .int .i64 0, .slice none 0 0]) 3 40 Tryz.underlying22 hi iz0 iz1 iz2 rfl (by decide) (.slice (some ⟨wa.heap.size + 1, 0, none⟩) 0 0) 0 [] (by rfl) (by exact HR3.out.drew)
               _ L.length _ (sgs L) (by rfl) (by exact HSA.out.s.below HW3.out.drew) (by rw [sgs_len]; omega) hone (by unfold maxLen; omega) (by omega) (by exact HW3.out.drew.size) ?_); intro a9 c9 w9 ho9 hg9; have HB9 := Lib.hid (HW3.out.drew.grown hg9 HW3.out.drew.size (fun q hq => (HR3.out.lt q hq).1)); have hsz9 := HB9.out.size; have HO9 := Lib.hid (show w9.ownsRow wa.heap.size 37 3 (.slice a9 L.length c9) L.length (sgs L) by simpa using ho9); have HP9 := Lib.hid ho9; have HM9 := Lib.hid (OwnRow.grown HX3.out.drew hg9 hzX3 (fun h => by simp [Value.ownBlock] at h)); have ra := (HB9.out.cell (p := ⟨w3.heap.size, 0, none⟩) hza).trans HXC.out.1; have rb := (HB9.out.cell (p := ⟨w3.heap.size, 1, none⟩) hza).trans HXC.out.2.1; have rc := (HB9.out.cell (p := ⟨w3.heap.size, 2, none⟩) hza).trans HXC.out.2.2; clear ho9 hg9)
          | ((refine step_append_lies _ (by rfl) _ _ _ (by rfl) wa.heap.size 37 i0 _ 3 40 Tryz.underlying22 hi iz0 iz1 iz2 rfl (by omega) (.slice a9 L.length c9) L.length (sgs L) (by rfl) (by exact HO9.out.alloc _) ⟨w9.heap.size, 0, none⟩ 1 1 [.int .i64 0, .int .i64 (1 + q), .slice a5 (p).length c5] (by rfl) (by rfl) (World.news_of_block (cs := #[.int .i64 0, .int .i64 (1 + q), .slice a5 (p).length c5]) (t := 37) (fr := (0, 0)) (by exact heap_alloc_new w9 _)) (by simp [Value.oneCell']) (by omega) (by unfold maxLen; omega) (by omega) (by simp; omega) (w9.heap.size + 1) (by simp) ?_); have hp0 := hpath1; intro gg cap10 w10 hown1 hgrow hat hlt10; have HB10 := Lib.hid ((HB9.out.alloc HB9.out.size (.cells #[.int .i64 0, .int .i64 (1 + q), .slice a5 (p).length c5] 37)).grown hgrow (by simp; omega) (fun q hq => (HO9.out.lt q hq).1)); have HS10 := Lib.hid (adds_sigs (s := (0, (1 + q), p)) HSA.out HYA.out HB10.out hown1); have sa := (HB10.out.cell (p := ⟨w3.heap.size, 0, none⟩) hza).trans HXC.out.1; have sb := (HB10.out.cell (p := ⟨w3.heap.size, 1, none⟩) hza).trans HXC.out.2.1; have sc := (HB10.out.cell (p := ⟨w3.heap.size, 2, none⟩) hza).trans HXC.out.2.2; clear hown1 hgrow)
          | ((refine step_append_lies _ (by rfl) _ _ _ (by rfl) wa.heap.size 37 i0 _ 3 40 Tryz.underlying22 hi iz0 iz1 iz2 rfl (by omega) (.slice a9 (0 + L.length) c9) (0 + L.length) ([] ++ sgs L) (by rfl) (by exact HP9.out) ⟨wa.heap.size + 1, 0, none⟩ 1 1 [.int .i64 0, .int .i64 (1 + q), .slice a5 (p).length c5] (by rfl) (by rfl) (own_news HN9.out) (by simp [Value.oneCell']) (by omega) (by unfold maxLen; omega) (by omega) (by omega) (w9.heap.size) (by rfl) ?_); intro gg cap10 w10 hown1 hgrow hat hlt10; have HB10 := Lib.hid (HB9.out.grown hgrow (by omega) (fun q hq => (HP9.out.lt q hq).1)); have HS10 := Lib.hid (adds_sigs2 (s := (0, (1 + q), p)) HSA.out HYA.out HB10.out hown1); have sa := (HB10.out.cell (p := ⟨w3.heap.size, 0, none⟩) hza).trans HXC.out.1; have sb := (HB10.out.cell (p := ⟨w3.heap.size, 1, none⟩) hza).trans HXC.out.2.1; have sc := (HB10.out.cell (p := ⟨w3.heap.size, 2, none⟩) hza).trans HXC.out.2.2; clear hown1 hgrow)
          | ((refine step_append_lies _ (by rfl) _ _ _ (by rfl) wa.heap.size 37 i0 _ 3 40 Tryz.underlying22 hi iz0 iz1 iz2 rfl (by omega) (.slice a9 (0 + L.length) c9) (0 + L.length) ([] ++ sgs L) (by rfl) (by exact HP9.out) ⟨wa.heap.size, 0, none⟩ 1 1 [.int .i64 0, .int .i64 (1 + q), .slice a5 (p).length c5] (by rfl) (by rfl) (own_news HM9.out) (by simp [Value.oneCell']) (by omega) (by unfold maxLen; omega) (by omega) (by omega) (w9.heap.size) (by rfl) ?_); intro gg cap10 w10 hown1 hgrow hat hlt10; have HB10 := Lib.hid (HB9.out.grown hgrow (by omega) (fun q hq => (HP9.out.lt q hq).1)); have HS10 := Lib.hid (adds_sigs2 (s := (0, (1 + q), p)) HSA.out HYA.out HB10.out hown1); have sa := (HB10.out.cell (p := ⟨w3.heap.size, 0, none⟩) hza).trans HXC.out.1; have sb := (HB10.out.cell (p := ⟨w3.heap.size, 1, none⟩) hza).trans HXC.out.2.1; have sc := (HB10.out.cell (p := ⟨w3.heap.size, 2, none⟩) hza).trans HXC.out.2.2; clear hown1 hgrow)
          | (go_at_call 10; (with_reducible refine (adds_find HF2.out (HG.out.below (ext_trans HBA.out HB10.out)) HS10.out HF.out HFY.out (by omega)).mono ?_); rintro e w11 ⟨v11, v12, rfl, ho11, ho12, hb11⟩; obtain ⟨a11, c11, rfl, -, -⟩ := ho11.shape; obtain ⟨a12, c12, rfl, -, -⟩ := ho12.shape; have HO11 := Lib.hid ho11; have HD11 := Lib.hid ho12; have HB11 := Lib.hid (ext_trans HB10.out hb11); have ta := (HB11.out.cell (p := ⟨w3.heap.size, 0, none⟩) hza).trans HXC.out.1; have tb := (HB11.out.cell (p := ⟨w3.heap.size, 1, none⟩) hza).trans HXC.out.2.1; have tc := (HB11.out.cell (p := ⟨w3.heap.size, 2, none⟩) hza).trans HXC.out.2.2; clear ho11 ho12 hb11)
          | fail "no arm")
      all_goals
        (try (rename_i hh; clear hh))
        obtain ⟨b8, o8, e8, z0, -, -⟩ := dv_at HD11.out (show L.length < d2.length by rw [HD2.out]; omega)
        have hdat := HDD.out
        rw [List.getElem?_eq_getElem (by rw [HD2.out]; omega)] at hdat
        rw [Option.some.inj hdat] at z0
        subst e8
        have hlt : decide (dd.1 < (st.length : Int)) = true := by rw [decide_eq_true_iff]; exact hdl
        have hdb : ((d2.length : Int) == (L.length : Int) + 1) = true := by rw [beq_iff_eq, HD2.out]; omega
        have hww9 : IntKind.i64.wrap ((L.length : Int) + 1) = (L.length : Int) + 1 := IntWalk.i64_in _ (by omega)
        have hl2 : L.length < d2.length := by rw [HD2.out]; omega
        have HIN := Lib.hid (ref_Ints _ _ st st w11 (HO1.out.below HB11.out) HO11.out)
        rw [decide_eq_true (show st = st from rfl)] at HIN
        clear hdat hdl
        go_wp2_with fail
        refine HIN.out.mono ?_
        rintro e w12 ⟨rfl, hb12⟩
        have z0 := (hb12.cell (cell_lt z0)).trans z0
        have HB12 := Lib.hid (ext_trans (ext_trans HBA.out HB11.out) hb12)
        clear hb12
        go_wp2_with fail
        go_ret
        exact ⟨rfl, HB12.out⟩
    · have HIV := Lib.hid (sig_Invert 0 (1 + q) (.slice a5 p.length c5) p w6 (HG.out.below (ext_trans HB3.out (ext_trans HB4.out hb6))) (SlR.of_own ho6) (sv_fit HP2.out))
      rw [HQ11.out] at HIV
      have s0 := hs6.cell (j := 0) rfl
      have s1 := hs6.cell (j := 1) rfl
      have s2 := hs6.cell (j := 2) rfl
      clear hs6 ho6 hb6 hx6
      go_wp2_with fail
      refine HIV.out.mono ?_
      rintro e w7 ⟨v7, rfl, ho7, hb7⟩
      dsimp only at ho7 ⊢
      obtain ⟨a7, c7, rfl, -, -⟩ := (SlR.of_own ho7).shape
      clear s0 s1 s2 HIV
      have hs7 := HS6.out.below hb7 hDl
      have hx7 := HX6.out.below hb7 hz6
      have s0 := hs7.cell (j := 0) rfl
      have s1 := hs7.cell (j := 1) rfl
      have s2 := hs7.cell (j := 2) rfl
      have t0 := hs7.free (j := 0) (by simp)
      have t1 := hs7.free (j := 1) (by simp)
      have t2 := hs7.free (j := 2) (by simp)
      have hs8 := ((hs7.set (j := 0) (by simp) (.int .i64 0)).set (j := 1) (by simp) (.int .i64 (1 + q))).set (j := 2) (by simp) (.slice a7 qq.length c7)
      have hx8 := ((hx7.setOther (b' := D) (by omega) 0 (.int .i64 0)).setOther (b' := D) (by omega) 1 (.int .i64 (1 + q))).setOther (b' := D) (by omega) 2 (.slice a7 qq.length c7)
      have hb8 := below_set3' (ext_trans HB4.out (ext_trans HB6W.out hb7)) (show w3.heap.size ≤ D by omega) (.int .i64 0) (.int .i64 (1 + q)) (.slice a7 qq.length c7)
      have ho8 := ownsRow_set3 ho7 hDl (.int .i64 0) (.int .i64 (1 + q)) (.slice a7 qq.length c7)
      have hz8 : w3.heap.size < (((w7.setCell ⟨D, 0, none⟩ (.int .i64 0)).setCell ⟨D, 1, none⟩ (.int .i64 (1 + q))).setCell ⟨D, 2, none⟩ (.slice a7 qq.length c7)).heap.size := by have := hb7.size; simp; omega
      clear hs7 hx7 ho7 hb7
      go_upto_region 13 with fail
      clear s0 s1 s2 t0 t1 t2
      generalize ((w7.setCell ⟨D, 0, none⟩ (.int .i64 0)).setCell ⟨D, 1, none⟩ (.int .i64 (1 + q))).setCell ⟨D, 2, none⟩ (.slice a7 qq.length c7) = w8 at hs8 hx8 hb8 ho8 hz8 ⊢
      have s0 := hs8.cell (j := 0) rfl
      have s1 := hs8.cell (j := 1) rfl
      have s2 := hs8.cell (j := 2) rfl
      have x0 := hx8.cell (j := 0) rfl
      have x1 := hx8.cell (j := 1) rfl
      have x2 := hx8.cell (j := 2) rfl
      have y0 := hx8.free (j := 0) (by simp)
      have y1 := hx8.free (j := 1) (by simp)
      have y2 := hx8.free (j := 2) (by simp)
      have hxw := ((hx8.set (j := 0) (by simp) (.int .i64 0)).set (j := 1) (by simp) (.int .i64 (1 + q))).set (j := 2) (by simp) (.slice a7 qq.length c7)
      have hbz := below_set3' hb8 (Nat.le_refl _) (.int .i64 0) (.int .i64 (1 + q)) (.slice a7 qq.length c7)
      have hsy := SlR.of_own (ownsRow_set3 ho8 hz6 (.int .i64 0) (.int .i64 (1 + q)) (.slice a7 qq.length c7))
      have hzw : w3.heap.size < (((w8.setCell ⟨w3.heap.size, 0, none⟩ (.int .i64 0)).setCell ⟨w3.heap.size, 1, none⟩ (.int .i64 (1 + q))).setCell ⟨w3.heap.size, 2, none⟩ (.slice a7 qq.length c7)).heap.size := by simpa using hz8
      clear hs8 hx8 hb8 ho8
      go_upto_region 16 with fail
      clear s0 s1 s2 x0 x1 x2 y0 y1 y2
      generalize ((w8.setCell ⟨w3.heap.size, 0, none⟩ (.int .i64 0)).setCell ⟨w3.heap.size, 1, none⟩ (.int .i64 (1 + q))).setCell ⟨w3.heap.size, 2, none⟩ (.slice a7 qq.length c7) = wz at hxw hbz hsy hzw ⊢
      have HBW := Lib.hid hbz
      have HXW := Lib.hid hxw
      have HSY := Lib.hid hsy
      have HDE := HQ13
      have HVY := HQ12
      clear hxw hbz hsy
      have HFY := Lib.hid (sv_fit HVY.out)
      have HBL := Lib.hid (ext_trans HB3.out HBW.out)
      have HFI := Lib.hid (al_Find _ L wz (HG.out.below HBL.out) (HS.out.below HBL.out) HF.out (by omega))
      rw [find_goodA HALL.out] at HFI
      go_wp2_with fail
      refine HFI.out.mono ?_
      rintro e wa ⟨v1, v2, rfl, ho1, ho2, hba⟩
      dsimp only at ho1 ho2
      obtain ⟨hst, dd, hdd, hdl⟩ := find_adds (x := (0, (1 + q), qq)) (u := u) (allV_of HALL.out) HVY.out (by rw [List.length_map]; exact hul) (by rw [HX.out]; exact HDE.out)
      have HAS := Lib.hid (show (L.map Prod.fst ++ [((0, (1 + q), qq) : Sg)]).all svS = true by rw [List.all_append, HALL.out]; simp [HVY.out])
      have HF2 := Lib.hid (find_goodA HAS.out)
      have hsl : (storedR (L.map Prod.fst)).length ≤ L.length := by
        have := base_len (L.map Prod.fst)
        unfold baseR at this
        rwa [List.length_map, List.length_map] at this
      have hdln : (dersR (L.map Prod.fst ++ [((0, (1 + q), qq) : Sg)])).length = L.length + 1 := by rw [ders_len]; simp
      rw [List.length_map] at hdd
      rw [hst] at HF2
      generalize storedR (L.map Prod.fst) = st at ho1 hst hdl HF2 hsl ⊢
      generalize dersR (L.map Prod.fst ++ [((0, (1 + q), qq) : Sg)]) = d2 at hdd HF2 hdln
      generalize dersR (L.map Prod.fst) = d1 at ho2 ⊢
      obtain ⟨a1, c1, rfl, -, -⟩ := (SlR.of_own ho1).shape
      obtain ⟨a2, c2, rfl, -, -⟩ := ho2.shape
      have HO1 := Lib.hid (SlR.of_own ho1)
      have HBA := Lib.hid (ext_trans HBL.out hba)
      have HXA := Lib.hid (HXW.out.below hba hzw)
      have HSA := Lib.hid (HS.out.below HBA.out)
      have HYA := Lib.hid (HSY.out.below hba)
      have ca := (HXA.out).cell (j := 0) rfl
      have cb := (HXA.out).cell (j := 1) rfl
      have cc := (HXA.out).cell (j := 2) rfl
      have HD2 := Lib.hid hdln
      have HDD := Lib.hid hdd
      clear ho1 ho2 hba hst hdd hdln HFI
      have HXC := Lib.hid (And.intro ca (And.intro cb cc))
      obtain ⟨i0, hi, iz0, iz1, iz2⟩ := info_parts (P := Tryz.prog) sg_info
      have hone : ∀ v ∈ sgs L, v.oneCell' = true := HONE.out
      have hza : w3.heap.size < wa.heap.size := cell_lt ca
      have HR1 := Lib.hid (World.ownsRow_made wa #[] 0 (Nat.le_refl _) (Nat.zero_le _) rfl : (wa.alloc (.cells #[] 37)).ownsRow wa.heap.size 37 3 (.slice (some ⟨wa.heap.size, 0, none⟩) 0 0) 0 [])
      have HW1 := Lib.hid ((Below.refl wa.heap.size wa).alloc (Nat.le_refl _) (.cells #[] 37))
      have HR2 := Lib.hid (World.ownsRow.alloc HR1.out (.cells #[.int .i64 0, .int .i64 (1 + q), .slice a7 (qq).length c7] 37))
      have HW2 := Lib.hid (HW1.out.alloc HW1.out.size (.cells #[.int .i64 0, .int .i64 (1 + q), .slice a7 (qq).length c7] 37))
      have HX2 := Lib.hid (show OwnRow ((wa.alloc (.cells #[] 37)).alloc (.cells #[.int .i64 0, .int .i64 (1 + q), .slice a7 (qq).length c7] 37)) (wa.heap.size + 1) [.int .i64 0, .int .i64 (1 + q), .slice a7 (qq).length c7] from by
        have h := OwnRow.fresh (wa.alloc (.cells #[] 37)) #[.int .i64 0, .int .i64 (1 + q), .slice a7 (qq).length c7] 37
        simp only [World.size_alloc] at h
        exact h)
      have HW3 := Lib.hid (((Below.refl wa.heap.size wa).alloc (Nat.le_refl _) (.cells #[.int .i64 0, .int .i64 (1 + q), .slice a7 (qq).length c7] 37)).alloc (by simp) (.cells #[] 37))
      have HR3 := Lib.hid (show ((wa.alloc (.cells #[.int .i64 0, .int .i64 (1 + q), .slice a7 (qq).length c7] 37)).alloc (.cells #[] 37)).ownsRow wa.heap.size 37 3 (.slice (some ⟨wa.heap.size + 1, 0, none⟩) 0 0) 0 [] from by
        have h : ((wa.alloc (.cells #[.int .i64 0, .int .i64 (1 + q), .slice a7 (qq).length c7] 37)).alloc (.cells #[] 37)).ownsRow (wa.alloc (.cells #[.int .i64 0, .int .i64 (1 + q), .slice a7 (qq).length c7] 37)).heap.size 37 3 (.slice (some ⟨(wa.alloc (.cells #[.int .i64 0, .int .i64 (1 + q), .slice a7 (qq).length c7] 37)).heap.size, 0, none⟩) 0 0) 0 [] := World.ownsRow_made (wa.alloc (.cells #[.int .i64 0, .int .i64 (1 + q), .slice a7 (qq).length c7] 37)) #[] 0 (Nat.le_refl _) (Nat.zero_le _) rfl
        simp only [World.size_alloc] at h
        exact ownsRow_base h (by omega))
      have HX3 := Lib.hid ((OwnRow.fresh wa #[.int .i64 0, .int .i64 (1 + q), .slice a7 (qq).length c7] 37).alloc (by simp) (.cells #[] 37))
      have hzE : wa.heap.size < (wa.alloc (.cells #[] 37)).drew.heap.size := by
        show wa.heap.size < (wa.alloc (.cells #[] 37)).heap.size
        simp
      have hzX : wa.heap.size + 1 < ((wa.alloc (.cells #[] 37)).alloc (.cells #[.int .i64 0, .int .i64 (1 + q), .slice a7 (qq).length c7] 37)).drew.heap.size := by
        show wa.heap.size + 1 < ((wa.alloc (.cells #[] 37)).alloc (.cells #[.int .i64 0, .int .i64 (1 + q), .slice a7 (qq).length c7] 37)).heap.size
        simp
      have hzX3 : wa.heap.size < ((wa.alloc (.cells #[.int .i64 0, .int .i64 (1 + q), .slice a7 (qq).length c7] 37)).alloc (.cells #[] 37)).drew.heap.size := by
        show wa.heap.size < ((wa.alloc (.cells #[.int .i64 0, .int .i64 (1 + q), .slice a7 (qq).length c7] 37)).alloc (.cells #[] 37)).heap.size
        simp; omega
      go_upto_region 17 with fail
      go_region_held3 (fun w' => w'.cell? ⟨w3.heap.size, 0, none⟩ = some (.int .i64 0) ∧ w'.cell? ⟨w3.heap.size, 1, none⟩ = some (.int .i64 (1 + q)) ∧ w'.cell? ⟨w3.heap.size, 2, none⟩ = some (.slice a7 (qq).length c7))
        (first | exact ⟨ca, cb, cc⟩ | exact ⟨ra, rb, rc⟩ | exact ⟨sa, sb, sc⟩ | exact ⟨ta, tb, tc⟩ | go_keep)
        (first
          | ((refine step_append_sl _ (by rfl) _ _ _ (by rfl) wa.heap.size 37 i0 (.agg #[.int .i64 0, .int .i64 0, .slice none 0 0]) 3 40 Tryz.underlying22 hi iz0 iz1 iz2 rfl (by decide) (.slice (some ⟨wa.heap.size, 0, none⟩) 0 0) 0 [] (by rfl) (by exact HR1.out.drew)
               _ L.length _ (sgs L) (by rfl) (by exact HSA.out.s.below HW1.out.drew) (by rw [sgs_len]; omega) hone (by unfold maxLen; omega) (by omega) (by exact HW1.out.drew.size) ?_); intro a9 c9 w9 ho9 hg9; have HB9 := Lib.hid (HW1.out.drew.grown hg9 HW1.out.drew.size (fun q hq => (HR1.out.lt q hq).1)); have hsz9 := HB9.out.size; have HO9 := Lib.hid (show w9.ownsRow wa.heap.size 37 3 (.slice a9 L.length c9) L.length (sgs L) by simpa using ho9); have HP9 := Lib.hid ho9; have ra := (HB9.out.cell (p := ⟨w3.heap.size, 0, none⟩) hza).trans HXC.out.1; have rb := (HB9.out.cell (p := ⟨w3.heap.size, 1, none⟩) hza).trans HXC.out.2.1; have rc := (HB9.out.cell (p := ⟨w3.heap.size, 2, none⟩) hza).trans HXC.out.2.2; have hpath1 : True := trivial; clear ho9 hg9)
          | ((refine step_append_sl _ (by rfl) _ _ _ (by rfl) wa.heap.size 37 i0 (.agg #[.int .i64 0, .int .i64 0, .slice none 0 0]) 3 40 Tryz.underlying22 hi iz0 iz1 iz2 rfl (by decide) (.slice (some ⟨wa.heap.size, 0, none⟩) 0 0) 0 [] (by rfl) (by exact HR2.out.drew)
               _ L.length _ (sgs L) (by rfl) (by exact HSA.out.s.below HW2.out.drew) (by rw [sgs_len]; omega) hone (by unfold maxLen; omega) (by omega) (by exact HW2.out.drew.size) ?_); intro a9 c9 w9 ho9 hg9; have HB9 := Lib.hid (HW2.out.drew.grown hg9 HW2.out.drew.size (fun q hq => (HR2.out.lt q hq).1)); have hsz9 := HB9.out.size; have HO9 := Lib.hid (show w9.ownsRow wa.heap.size 37 3 (.slice a9 L.length c9) L.length (sgs L) by simpa using ho9); have HP9 := Lib.hid ho9; have HN9 := Lib.hid (OwnRow.grown HX2.out.drew hg9 hzX (fun h => by simp [Value.ownBlock] at h)); have ra := (HB9.out.cell (p := ⟨w3.heap.size, 0, none⟩) hza).trans HXC.out.1; have rb := (HB9.out.cell (p := ⟨w3.heap.size, 1, none⟩) hza).trans HXC.out.2.1; have rc := (HB9.out.cell (p := ⟨w3.heap.size, 2, none⟩) hza).trans HXC.out.2.2; clear ho9 hg9)
          | ((refine step_append_sl _ (by rfl) _ _ _ (by rfl) wa.heap.size 37 i0 (.agg #[.int .i64 0, .int .i64 0, .slice none 0 0]) 3 40 Tryz.underlying22 hi iz0 iz1 iz2 rfl (by decide) (.slice (some ⟨wa.heap.size + 1, 0, none⟩) 0 0) 0 [] (by rfl) (by exact HR3.out.drew)
               _ L.length _ (sgs L) (by rfl) (by exact HSA.out.s.below HW3.out.drew) (by rw [sgs_len]; omega) hone (by unfold maxLen; omega) (by omega) (by exact HW3.out.drew.size) ?_); intro a9 c9 w9 ho9 hg9; have HB9 := Lib.hid (HW3.out.drew.grown hg9 HW3.out.drew.size (fun q hq => (HR3.out.lt q hq).1)); have hsz9 := HB9.out.size; have HO9 := Lib.hid (show w9.ownsRow wa.heap.size 37 3 (.slice a9 L.length c9) L.length (sgs L) by simpa using ho9); have HP9 := Lib.hid ho9; have HM9 := Lib.hid (OwnRow.grown HX3.out.drew hg9 hzX3 (fun h => by simp [Value.ownBlock] at h)); have ra := (HB9.out.cell (p := ⟨w3.heap.size, 0, none⟩) hza).trans HXC.out.1; have rb := (HB9.out.cell (p := ⟨w3.heap.size, 1, none⟩) hza).trans HXC.out.2.1; have rc := (HB9.out.cell (p := ⟨w3.heap.size, 2, none⟩) hza).trans HXC.out.2.2; clear ho9 hg9)
          | ((refine step_append_lies _ (by rfl) _ _ _ (by rfl) wa.heap.size 37 i0 _ 3 40 Tryz.underlying22 hi iz0 iz1 iz2 rfl (by omega) (.slice a9 L.length c9) L.length (sgs L) (by rfl) (by exact HO9.out.alloc _) ⟨w9.heap.size, 0, none⟩ 1 1 [.int .i64 0, .int .i64 (1 + q), .slice a7 (qq).length c7] (by rfl) (by rfl) (World.news_of_block (cs := #[.int .i64 0, .int .i64 (1 + q), .slice a7 (qq).length c7]) (t := 37) (fr := (0, 0)) (by exact heap_alloc_new w9 _)) (by simp [Value.oneCell']) (by omega) (by unfold maxLen; omega) (by omega) (by simp; omega) (w9.heap.size + 1) (by simp) ?_); have hp0 := hpath1; intro gg cap10 w10 hown1 hgrow hat hlt10; have HB10 := Lib.hid ((HB9.out.alloc HB9.out.size (.cells #[.int .i64 0, .int .i64 (1 + q), .slice a7 (qq).length c7] 37)).grown hgrow (by simp; omega) (fun q hq => (HO9.out.lt q hq).1)); have HS10 := Lib.hid (adds_sigs (s := (0, (1 + q), qq)) HSA.out HYA.out HB10.out hown1); have sa := (HB10.out.cell (p := ⟨w3.heap.size, 0, none⟩) hza).trans HXC.out.1; have sb := (HB10.out.cell (p := ⟨w3.heap.size, 1, none⟩) hza).trans HXC.out.2.1; have sc := (HB10.out.cell (p := ⟨w3.heap.size, 2, none⟩) hza).trans HXC.out.2.2; clear hown1 hgrow)
          | ((refine step_append_lies _ (by rfl) _ _ _ (by rfl) wa.heap.size 37 i0 _ 3 40 Tryz.underlying22 hi iz0 iz1 iz2 rfl (by omega) (.slice a9 (0 + L.length) c9) (0 + L.length) ([] ++ sgs L) (by rfl) (by exact HP9.out) ⟨wa.heap.size + 1, 0, none⟩ 1 1 [.int .i64 0, .int .i64 (1 + q), .slice a7 (qq).length c7] (by rfl) (by rfl) (own_news HN9.out) (by simp [Value.oneCell']) (by omega) (by unfold maxLen; omega) (by omega) (by omega) (w9.heap.size) (by rfl) ?_); intro gg cap10 w10 hown1 hgrow hat hlt10; have HB10 := Lib.hid (HB9.out.grown hgrow (by omega) (fun q hq => (HP9.out.lt q hq).1)); have HS10 := Lib.hid (adds_sigs2 (s := (0, (1 + q), qq)) HSA.out HYA.out HB10.out hown1); have sa := (HB10.out.cell (p := ⟨w3.heap.size, 0, none⟩) hza).trans HXC.out.1; have sb := (HB10.out.cell (p := ⟨w3.heap.size, 1, none⟩) hza).trans HXC.out.2.1; have sc := (HB10.out.cell (p := ⟨w3.heap.size, 2, none⟩) hza).trans HXC.out.2.2; clear hown1 hgrow)
          | ((refine step_append_lies _ (by rfl) _ _ _ (by rfl) wa.heap.size 37 i0 _ 3 40 Tryz.underlying22 hi iz0 iz1 iz2 rfl (by omega) (.slice a9 (0 + L.length) c9) (0 + L.length) ([] ++ sgs L) (by rfl) (by exact HP9.out) ⟨wa.heap.size, 0, none⟩ 1 1 [.int .i64 0, .int .i64 (1 + q), .slice a7 (qq).length c7] (by rfl) (by rfl) (own_news HM9.out) (by simp [Value.oneCell']) (by omega) (by unfold maxLen; omega) (by omega) (by omega) (w9.heap.size) (by rfl) ?_); intro gg cap10 w10 hown1 hgrow hat hlt10; have HB10 := Lib.hid (HB9.out.grown hgrow (by omega) (fun q hq => (HP9.out.lt q hq).1)); have HS10 := Lib.hid (adds_sigs2 (s := (0, (1 + q), qq)) HSA.out HYA.out HB10.out hown1); have sa := (HB10.out.cell (p := ⟨w3.heap.size, 0, none⟩) hza).trans HXC.out.1; have sb := (HB10.out.cell (p := ⟨w3.heap.size, 1, none⟩) hza).trans HXC.out.2.1; have sc := (HB10.out.cell (p := ⟨w3.heap.size, 2, none⟩) hza).trans HXC.out.2.2; clear hown1 hgrow)
          | (go_at_call 10; (with_reducible refine (adds_find HF2.out (HG.out.below (ext_trans HBA.out HB10.out)) HS10.out HF.out HFY.out (by omega)).mono ?_); rintro e w11 ⟨v11, v12, rfl, ho11, ho12, hb11⟩; obtain ⟨a11, c11, rfl, -, -⟩ := ho11.shape; obtain ⟨a12, c12, rfl, -, -⟩ := ho12.shape; have HO11 := Lib.hid ho11; have HD11 := Lib.hid ho12; have HB11 := Lib.hid (ext_trans HB10.out hb11); have ta := (HB11.out.cell (p := ⟨w3.heap.size, 0, none⟩) hza).trans HXC.out.1; have tb := (HB11.out.cell (p := ⟨w3.heap.size, 1, none⟩) hza).trans HXC.out.2.1; have tc := (HB11.out.cell (p := ⟨w3.heap.size, 2, none⟩) hza).trans HXC.out.2.2; clear ho11 ho12 hb11)
          | fail "no arm")
      all_goals
        (try (rename_i hh; clear hh))
        obtain ⟨b8, o8, e8, z0, -, -⟩ := dv_at HD11.out (show L.length < d2.length by rw [HD2.out]; omega)
        have hdat := HDD.out
        rw [List.getElem?_eq_getElem (by rw [HD2.out]; omega)] at hdat
        rw [Option.some.inj hdat] at z0
        subst e8
        have hlt : decide (dd.1 < (st.length : Int)) = true := by rw [decide_eq_true_iff]; exact hdl
        have hdb : ((d2.length : Int) == (L.length : Int) + 1) = true := by rw [beq_iff_eq, HD2.out]; omega
        have hww9 : IntKind.i64.wrap ((L.length : Int) + 1) = (L.length : Int) + 1 := IntWalk.i64_in _ (by omega)
        have hl2 : L.length < d2.length := by rw [HD2.out]; omega
        have HIN := Lib.hid (ref_Ints _ _ st st w11 (HO1.out.below HB11.out) HO11.out)
        rw [decide_eq_true (show st = st from rfl)] at HIN
        clear hdat hdl
        go_wp2_with fail
        refine HIN.out.mono ?_
        rintro e w12 ⟨rfl, hb12⟩
        have z0 := (hb12.cell (cell_lt z0)).trans z0
        have HB12 := Lib.hid (ext_trans (ext_trans HBA.out HB11.out) hb12)
        clear hb12
        go_wp2_with fail
        go_ret
        exact ⟨rfl, HB12.out⟩
end Go.Proofs.YtimeilkelnljnaaGreatDoor
