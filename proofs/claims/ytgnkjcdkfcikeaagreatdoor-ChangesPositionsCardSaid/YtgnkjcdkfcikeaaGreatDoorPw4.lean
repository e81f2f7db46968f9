import Derived.Test.YtgnkjcdkfcikeaaGreatDoorPw3
import Derived.Test.YtgnkjcdkfcikeaaGreatDoorCw10
namespace Go.Proofs.YtgnkjcdkfcikeaaGreatDoor
open Go.RowKit
set_option linter.unusedSimpArgs false

/-! a value change -/
def dz : Dcl := ⟨[], 0, 0, 0, false, 0, 0, [], 0, 0⟩
def changeQ (s : PS) (w h : Wd) (o : Option Dcl) (code text : Bs) (ks : List Int) : PS :=
  if s.skip = true then s else
  match o with
  | none => s.prob 4 h
  | some d =>
    if ks.contains d.kind = false then s.prob 7 w else
    if (parV d.kind d.width text).2 ≠ 0 then s.prob (parV d.kind d.width text).2 w else
    if s.off = true ∧ d.kind = 0 then (if (parV d.kind d.width text).1 = (vi d.kind d.width).data.toList then s else s.prob 10 w)
    else s.put (1, 0, code, (parV d.kind d.width text).1)
theorem changeQ_eq (L : List Dcl) (s : PS) (w h : Wd) (code text : Bs) (ks : List Int) : changeP cv (knL cv (L.map Dcl.dc)) s w h code text ks = changeQ s w h (knF L code) code text ks := by
  unfold changeP changeQ
  rw [knF_map]
  cases knF L code <;> rfl
theorem zeroDcl (w : World) : (zeroValue 55).run Tryz.prog w = .ok dclZ w := by kernel_rfl
theorem sig_getD (o : Option Dcl) : (o.map fun d => dclV d).getD dclZ = dclV (o.getD dz) := by cases o <;> rfl
theorem sig_some (o : Option Dcl) : (o.map fun d => dclV d).isSome = o.isSome := by cases o <;> rfl
theorem ps_look {c : PC} {L : List Dcl} {i : Int} {s : PS} {vo vr : Value} {W : World} (h : ParX c i s vo vr W) (hF : c.F = sigF L) {code : Bs} (hc : code.length ≤ 140737488351232) :
    (Instr.lookup 62 (.map (some c.mb)) (.string (bsB code)) true).run Tryz.prog W = .ok (.tuple #[dclV ((knF L code).getD dz), .bool (knF L code).isSome]) W := by
  have := h.g.look (t := 62) Tryz.underlying9 Tryz.underlying62 (zeroDcl W) (bsB code) (by rw [bsB_size]; unfold maxLen; omega)
  rw [bsB_list, hF] at this
  unfold sigF at this
  rw [sig_getD, sig_some] at this
  exact this

set_option maxHeartbeats 1600000 in
set_option maxRecDepth 100000 in
theorem ps_change (c : PC) (L : List Dcl) (i : Int) (s : PS) (vo vr : Value) (w hw : Wd) (code text : Bs) (g : Nat) (ks : List Int) (W : World) (h : ParX c i s vo vr W) (hF : c.F = sigF L) (hg : Glob W) (hl : s.wrong.length ≤ 1000000) (hl2 : s.out.length ≤ 1000000)
    (hcs : code.length ≤ 140737488351232) (hts : text.length ≤ 140737488351232) (hk : OwnRow W g (ks.map fun k => .int .i64 k)) (hg1 : g < W.heap.size) (hkl : ks.length ≤ 10) :
    Calls Tryz.prog 60 #[.pointer (some ⟨c.B, 0, none⟩), wdV w, wdV hw, .string (bsB code), .string (bsB text), .slice (some ⟨g, 0, none⟩) ks.length ks.length] W (PPost c i (changeQ s w hw (knF L code) code text ks)) := by
  obtain ⟨t1, a1, a2, a3⟩ := w
  obtain ⟨t2, b1, b2, b3⟩ := hw
  have HG := Lib.hid hg
  have HK := Lib.hid hk
  clear hg hk
  have hal1 : Below W.heap.size W (W.alloc (.cells #[.string (bsB t1), .int .i64 a1, .int .i64 a2, .int .i64 a3] 39)) := (Below.refl _ _).alloc (Nat.le_refl _) _
  have hx1 := OwnRow.fresh W #[.string (bsB t1), .int .i64 a1, .int .i64 a2, .int .i64 a3] 39
  have hz1 : (W.alloc (.cells #[.string (bsB t1), .int .i64 a1, .int .i64 a2, .int .i64 a3] 39)).heap.size = W.heap.size + 1 := by simp
  generalize hw1 : W.alloc (.cells #[.string (bsB t1), .int .i64 a1, .int .i64 a2, .int .i64 a3] 39) = w1 at *
  have hal2 : Below w1.heap.size w1 (w1.alloc (.cells #[.string (bsB t2), .int .i64 b1, .int .i64 b2, .int .i64 b3] 39)) := (Below.refl _ _).alloc (Nat.le_refl _) _
  have hx2 := OwnRow.fresh w1 #[.string (bsB t2), .int .i64 b1, .int .i64 b2, .int .i64 b3] 39
  have hx1 := hx1.below hal2 (by omega)
  have hz2 : (w1.alloc (.cells #[.string (bsB t2), .int .i64 b1, .int .i64 b2, .int .i64 b3] 39)).heap.size = W.heap.size + 1 + 1 := by simp [hz1]
  rw [hz1] at hx2
  generalize hw2 : w1.alloc (.cells #[.string (bsB t2), .int .i64 b1, .int .i64 b2, .int .i64 b3] 39) = w2 at *
  have hlk := ps_look (h.later (ext_trans hal1 hal2)) hF hcs
  generalize hd : (knF L code).getD dz = d at hlk
  obtain ⟨n0, n1, n2, n3, n4, n5, n6, n7, n8, n9⟩ := d
  have hal3 : Below w2.heap.size w2 (w2.alloc (.cells #[.string (bsB n0), .int .i64 n1, .int .i64 n2, .int .i64 n3, .bool n4, .int .i64 n5, .int .i64 n6, .string (bsB n7), .int .i64 n8, .int .i64 n9] 55)) := (Below.refl _ _).alloc (Nat.le_refl _) _
  have hx3 := OwnRow.fresh w2 #[.string (bsB n0), .int .i64 n1, .int .i64 n2, .int .i64 n3, .bool n4, .int .i64 n5, .int .i64 n6, .string (bsB n7), .int .i64 n8, .int .i64 n9] 55
  have hx1 := hx1.below hal3 (by omega)
  have hx2 := hx2.below hal3 (by omega)
  have hz3 : (w2.alloc (.cells #[.string (bsB n0), .int .i64 n1, .int .i64 n2, .int .i64 n3, .bool n4, .int .i64 n5, .int .i64 n6, .string (bsB n7), .int .i64 n8, .int .i64 n9] 55)).heap.size = W.heap.size + 1 + 1 + 1 := by simp [hz2]
  rw [hz2] at hx3
  generalize hw3 : w2.alloc (.cells #[.string (bsB n0), .int .i64 n1, .int .i64 n2, .int .i64 n3, .bool n4, .int .i64 n5, .int .i64 n6, .string (bsB n7), .int .i64 n8, .int .i64 n9] 55) = w3 at *
  have hal := ext_trans (ext_trans hal1 hal2) hal3
  have H := Lib.hid (h.later hal)
  have HB := Lib.hid hal
  have HX1 := Lib.hid hx1
  have HX2 := Lib.hid hx2
  have HX3 := Lib.hid hx3
  have HD := Lib.hid hd
  have HZ3 := Lib.hid hz3
  have p2 := (h.later (ext_trans hal1 hal2)).row.cell (j := 2) rfl
  have p6 := H.out.row.cell (j := 6) rfl
  have s0 := hx1.cell (j := 0) rfl
  have s1 := hx1.cell (j := 1) rfl
  have s2 := hx1.cell (j := 2) rfl
  have s3 := hx1.cell (j := 3) rfl
  have u0 := hx2.cell (j := 0) rfl
  have u1 := hx2.cell (j := 1) rfl
  have u2 := hx2.cell (j := 2) rfl
  have u3 := hx2.cell (j := 3) rfl
  have v8 := hx3.cell (j := 8) rfl
  have v9 := hx3.cell (j := 9) rfl
  clear h hal hal1 hal2 hal3 hx1 hx2 hx3 hd hF
  cases hsk : s.skip
  · rw [hsk] at p6
    cases ho : knF L code with
    | none =>
      have HR := Lib.hid (show s.prob 4 (t2, b1, b2, b3) = changeQ s (t1, a1, a2, a3) (t2, b1, b2, b3) none code text ks by unfold changeQ; rw [if_neg (by rw [hsk]; simp)])
      rw [ho] at hlk
      simp only [Option.isSome_none] at hlk
      clear hsk HD ho
      go_enter Tryz.func60, Tryz.ntmps60
      go_wp2_with fail
      refine (ps_problem c i s vo vr 4 (t2, b1, b2, b3) _ (H.out) hl).mono ?_
      rintro e w9 ⟨rfl, vo9, vr9, h9⟩
      have H9 := Lib.hid h9
      clear h9
      go_wp2_with fail
      go_end0
      exact ⟨rfl, _, _, HR.out ▸ H9.out⟩
    | some d =>
      have hd := HD.out
      rw [ho, Option.getD_some] at hd
      subst hd
      rw [ho] at hlk
      simp only [Option.isSome_some] at hlk
      have HCN := Lib.hid (fun W' (hb : Below w3.heap.size w3 W') => Tryz.slices_Contains_int g 0 ks.length ks.length ks n8 W' (Nat.le_refl _) (by omega) (fun j hj => by
        rw [Nat.zero_add]
        refine ((HK.out.below (HB.out.trans (hb.mono HB.out.size)) hg1).cell (j := j) ?_)
        simp [List.getD, hj]))
      have HCC := Lib.hid (show (ks.take ks.length).contains n8 = ks.contains n8 by rw [List.take_length])
      generalize (ks.take ks.length).contains n8 = cn at HCN HCC
      clear HD ho
      cases cn
      · have HR := Lib.hid (show s.prob 7 (t1, a1, a2, a3) = changeQ s (t1, a1, a2, a3) (t2, b1, b2, b3) (some ⟨n0, n1, n2, n3, n4, n5, n6, n7, n8, n9⟩) code text ks by
          unfold changeQ
          rw [if_neg (by rw [hsk]; simp)]
          simp only
          rw [if_pos HCC.out.symm])
        clear hsk HCC
        go_enter Tryz.func60, Tryz.ntmps60
        go_wp2_with fail
        refine (HCN.out _ (Below.refl _ _)).mono ?_
        rintro e w' ⟨rfl, rfl⟩
        go_wp2_with fail
        refine (ps_problem c i s vo vr 7 (t1, a1, a2, a3) _ (H.out) hl).mono ?_
        rintro e w9 ⟨rfl, vo9, vr9, h9⟩
        have H9 := Lib.hid h9
        clear h9
        go_wp2_with fail
        go_end0
        exact ⟨rfl, _, _, HR.out ▸ H9.out⟩
      · have HPA := Lib.hid (val_Parse n8 n9 (bsB text) w3 (HG.out.below HB.out) (by rw [bsB_size]; exact hts))
        rw [show parB n8 n9 (bsB text) = (bsB (parV n8 n9 text).1, (parV n8 n9 text).2) by unfold parB; rw [bsB_list]] at HPA
        have HR := Lib.hid (show changeQ s (t1, a1, a2, a3) (t2, b1, b2, b3) (some ⟨n0, n1, n2, n3, n4, n5, n6, n7, n8, n9⟩) code text ks = if (parV n8 n9 text).2 ≠ 0 then s.prob (parV n8 n9 text).2 (t1, a1, a2, a3) else
            if s.off = true ∧ n8 = 0 then (if (parV n8 n9 text).1 = (vi n8 n9).data.toList then s else s.prob 10 (t1, a1, a2, a3))
            else s.put (1, 0, code, (parV n8 n9 text).1) by
          unfold changeQ
          rw [if_neg (by rw [hsk]; simp)]
          simp only
          rw [if_neg (by rw [← HCC.out]; simp)])
        generalize parV n8 n9 text = r at HPA HR
        obtain ⟨pv, pe⟩ := r
        dsimp only at HPA HR
        clear hsk HCC
        go_enter Tryz.func60, Tryz.ntmps60
        go_wp2_with fail
        refine (HCN.out _ (Below.refl _ _)).mono ?_
        rintro e w' ⟨rfl, rfl⟩
        go_wp2_with fail
        refine HPA.out.mono ?_
        rintro e w4 ⟨rfl, hb4⟩
        have HB4 := Lib.hid (ext_trans HB.out hb4)
        have H4 := Lib.hid (H.out.later hb4)
        have p4 := H4.out.row.cell (j := 4) rfl
        have s0 := (HX1.out.below hb4 (by omega)).cell (j := 0) rfl
        have s1 := (HX1.out.below hb4 (by omega)).cell (j := 1) rfl
        have s2 := (HX1.out.below hb4 (by omega)).cell (j := 2) rfl
        have s3 := (HX1.out.below hb4 (by omega)).cell (j := 3) rfl
        have v8 := (HX3.out.below hb4 (by omega)).cell (j := 8) rfl
        have v9 := (HX3.out.below hb4 (by omega)).cell (j := 9) rfl
        clear hb4 u0 u1 u2 u3 p6 p2
        by_cases hpe : pe = 0
        · subst hpe
          rw [if_neg (by simp)] at HR
          by_cases hof : s.off = true ∧ n8 = 0
          · rw [if_pos hof] at HR
            obtain ⟨hof1, rfl⟩ := hof
            rw [hof1] at p4
            clear hof1
            have HVI := Lib.hid (val_Initial 0 n9 w4)
            have hse := bsB_beq pv (vi 0 n9).toList
            have hcl : (vi 0 n9).toList = (vi 0 n9).data.toList := by rw [ByteArray.toList_eq]
            go_wp2_with fail
            refine HVI.out.mono ?_
            rintro e w5 ⟨rfl, hb5⟩
            have H5 := Lib.hid (H4.out.later hb5)
            by_cases hv : pv = (vi 0 n9).data.toList
            · rw [if_pos hv] at HR
              rw [hcl, decide_eq_true hv, ← hcl] at hse
              clear hv hcl hb5
              go_wp2_with fail
              go_end0
              exact ⟨rfl, _, _, HR.out ▸ H5.out⟩
            · rw [if_neg hv] at HR
              rw [hcl, decide_eq_false hv, ← hcl] at hse
              have HR := Lib.hid HR.out.symm
              have s0 := (hb5.cell (cell_lt s0)).trans s0
              have s1 := (hb5.cell (cell_lt s1)).trans s1
              have s2 := (hb5.cell (cell_lt s2)).trans s2
              have s3 := (hb5.cell (cell_lt s3)).trans s3
              clear hv hcl hb5
              go_wp2_with fail
              refine (ps_problem c i s vo vr 10 (t1, a1, a2, a3) _ (H5.out) hl).mono ?_
              rintro e w9 ⟨rfl, vo9, vr9, h9⟩
              have H9 := Lib.hid h9
              clear h9
              go_wp2_with fail
              go_end0
              exact ⟨rfl, _, _, HR.out ▸ H9.out⟩
          · rw [if_neg hof] at HR
            have HR := Lib.hid HR.out.symm
            cases hof1 : s.off
            · rw [hof1] at p4
              clear hof hof1
              go_wp2_with fail
              refine (ps_record c i s _ _ (1, 0, code, pv) _ H4.out hl2).mono ?_
              rintro e w9 ⟨rfl, vo9, vr9, h9⟩
              have H9 := Lib.hid h9
              clear h9
              go_wp2_with fail
              go_end0
              exact ⟨rfl, _, _, HR.out ▸ H9.out⟩
            · have h80 : (n8 == 0) = false := by rw [beq_eq_false_iff_ne]; exact fun e => hof ⟨hof1, e⟩
              rw [hof1] at p4
              clear hof hof1
              go_wp2_with fail
              refine (ps_record c i s _ _ (1, 0, code, pv) _ H4.out hl2).mono ?_
              rintro e w9 ⟨rfl, vo9, vr9, h9⟩
              have H9 := Lib.hid h9
              clear h9
              go_wp2_with fail
              go_end0
              exact ⟨rfl, _, _, HR.out ▸ H9.out⟩
        · rw [if_pos hpe] at HR
          have HR := Lib.hid HR.out.symm
          have hpb : (pe == 0) = false := by rw [beq_eq_false_iff_ne]; exact hpe
          have hpn : (pe != 0) = true := by rw [bne_iff_ne]; exact hpe
          clear hpe
          go_wp2_with fail
          refine (ps_problem c i s vo vr pe (t1, a1, a2, a3) _ (H4.out) hl).mono ?_
          rintro e w9 ⟨rfl, vo9, vr9, h9⟩
          have H9 := Lib.hid h9
          clear h9
          go_wp2_with fail
          go_end0
          exact ⟨rfl, _, _, HR.out ▸ H9.out⟩
  · have HR := Lib.hid (show s = changeQ s (t1, a1, a2, a3) (t2, b1, b2, b3) (knF L code) code text ks by unfold changeQ; rw [if_pos hsk])
    rw [hsk] at p6
    clear hsk HD
    generalize (knF L code).isSome = ok at hlk
    go_enter Tryz.func60, Tryz.ntmps60
    go_wp2_with fail
    go_end0
    exact ⟨rfl, _, _, HR.out ▸ H.out⟩
end Go.Proofs.YtgnkjcdkfcikeaaGreatDoor
