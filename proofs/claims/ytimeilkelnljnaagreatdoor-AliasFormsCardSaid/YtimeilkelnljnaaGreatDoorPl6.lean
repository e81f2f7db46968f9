import Derived.Test.YtimeilkelnljnaaGreatDoorPl5
namespace Go.Proofs.YtimeilkelnljnaaGreatDoor
/- Plain laws of Slice. No program in sight. -/

def SlOk (n from_ width : Int) : Prop := 0 ≤ from_ ∧ 1 ≤ width ∧ width ≤ n ∧ from_ ≤ n - width
theorem slR_zero {n from_ width : Int} {s : ByteArray} (h : vv 0 n s = true) : (slR s from_ width).2 = 0 ↔ SlOk n from_ width := by
  obtain ⟨h1, h2⟩ := vv0 h
  unfold slR SlOk
  rw [if_neg (by rw [h1]; simp)]
  split
  · rename_i hc
    exact ⟨fun h => by simp at h, fun h => by omega⟩
  · rename_i hc
    exact ⟨fun _ => by omega, fun _ => rfl⟩
theorem slB_list {n from_ width : Int} {s : ByteArray} (h : vv 0 n s = true) (hc : SlOk n from_ width) :
    (slB from_ width s).data.toList = (s.data.toList.drop (n.toNat - from_.toNat - width.toNat)).take width.toNat := by
  obtain ⟨h1, h2⟩ := vv0 h
  unfold SlOk at hc
  unfold slB slR
  rw [if_neg (by rw [h1]; simp), if_neg (by omega)]
  show (s.extract _ _).data.toList = _
  rw [Lib.extract_data]
  have : s.size = n.toNat := by omega
  rw [this]
  congr 1
  omega
theorem vv_slB {n from_ width : Int} {s : ByteArray} (h : vv 0 n s = true) (hc : SlOk n from_ width) : vv 0 width (slB from_ width s) = true := by
  have hl := slB_list h hc
  obtain ⟨h1, h2⟩ := vv0 h
  obtain ⟨i1, i2, i3⟩ := bvIs_iff.1 h1
  have hc' := hc
  unfold SlOk at hc'
  have hs : (slB from_ width s).size = width.toNat := by
    rw [ba_size, hl, List.length_take, List.length_drop, ← ba_size]; omega
  have hb : bvIs (slB from_ width s) = true := bvIs_iff.2 ⟨by omega, by omega, fun c hcm => by
    rw [hl] at hcm
    exact i3 c (List.mem_of_mem_drop (List.mem_of_mem_take hcm))⟩
  have := vv0_mk hb
  rw [hs, show ((width.toNat : Nat) : Int) = width by omega] at this
  exact this
theorem slB_vi {n from_ width : Int} (h : vt 0 n = true) (hc : SlOk n from_ width) : vt 0 width = true ∧ slB from_ width (vi 0 n) = vi 0 width := by
  have hv := vv_vi h
  have hw := vv_vt (vv_slB hv hc)
  refine ⟨hw, ba_ext ?_⟩
  rw [slB_list hv hc, (vi0 h).1, (vi0 hw).1, List.drop_replicate, List.take_replicate]
  unfold SlOk at hc
  congr 1
  omega
theorem slB_slB {n from_ width inner narrow : Int} {s : ByteArray} (h : vv 0 n s = true) (hc : SlOk n from_ width) (hi : SlOk width inner narrow) :
    SlOk n (from_ + inner) narrow ∧ slB inner narrow (slB from_ width s) = slB (from_ + inner) narrow s := by
  have hc2 : SlOk n (from_ + inner) narrow := by unfold SlOk at *; omega
  refine ⟨hc2, ba_ext ?_⟩
  rw [slB_list (vv_slB h hc) hi, slB_list h hc, slB_list h hc2, List.drop_take, List.take_take, List.drop_drop]
  unfold SlOk at *
  rw [show n.toNat - from_.toNat - width.toNat + (width.toNat - inner.toNat - narrow.toNat) = n.toNat - (from_ + inner).toNat - narrow.toNat by omega]
  congr 1
  omega

theorem slice_cases {n : Int} {l : List Ch} {from_ width : Int} (h : sv 0 n l = true) : sliceR 0 n l from_ width = ((0, 0, []), 2) ∨ SlOk n from_ width := by
  have hz := slR_zero (from_ := from_) (width := width) (vv_vi (sv_iff.1 h).1)
  by_cases hc : SlOk n from_ width
  · exact .inr hc
  · refine .inl ?_
    unfold sliceR
    rw [if_neg (by rw [h]; simp), if_neg (by simp), if_pos (fun e => hc (hz.1 e))]
theorem slice_ok {n : Int} {l : List Ch} {from_ width : Int} (h : sv 0 n l = true) (hc : SlOk n from_ width) :
    ∃ p, sliceR 0 n l from_ width = ((0, width, p), 0) ∧ sv 0 width p = true ∧ p.length ≤ l.length ∧ ∀ t, val (vi 0 width) p t = slB from_ width (val (vi 0 n) l t) := by
  have hv := (sv_iff.1 h).1
  obtain ⟨hw, hvi⟩ := slB_vi hv hc
  have hN := map_Nrm (f := slB from_ width) h hw (fun s hs => vv_slB hs hc)
  refine ⟨normS 0 width (l.map (mvC (slB from_ width))), ?_, hN.sv, ?_, fun t => ?_⟩
  · unfold sliceR
    have hz := (slR_zero (from_ := from_) (width := width) (vv_vi hv)).2 hc
    rw [if_neg (by rw [h]; simp), if_neg (by simp), if_neg (fun e => e hz), eachL_map, hN.made]
  · have := normGo_len 0 (l.map (mvC (slB from_ width))) (vi 0 width)
    rw [List.length_map] at this
    exact this
  · rw [hN.val]
    conv => lhs; rw [← hvi]
    exact val_map (slB from_ width) t l _
theorem slice_slice {n : Int} {l p : List Ch} {from_ width inner narrow : Int} (h : sv 0 n l = true) (hc : SlOk n from_ width) (hp : sliceR 0 n l from_ width = ((0, width, p), 0)) (hsp : sv 0 width p = true) (hi : SlOk width inner narrow) :
    ∃ x, sliceR 0 width p inner narrow = ((0, narrow, x), 0) ∧ sliceR 0 n l (from_ + inner) narrow = ((0, narrow, x), 0) ∧ x.length ≤ p.length := by
  obtain ⟨p', e1, -, -, e4⟩ := slice_ok h hc
  have hpp : p' = p := by
    rw [hp] at e1
    exact ((Prod.mk.inj (Prod.mk.inj (Prod.mk.inj e1).1).2).2).symm
  subst hpp
  obtain ⟨x, f1, f2, f3, f4⟩ := slice_ok hsp hi
  obtain ⟨hc2, -⟩ := slB_slB (vv_vi (sv_iff.1 h).1) hc hi
  obtain ⟨y, g1, g2, -, g4⟩ := slice_ok h hc2
  have : y = x := sv_unique (by decide) g2 f2 (fun t _ _ => by
    rw [g4, f4, e4]
    exact (slB_slB (val_vv h t) hc hi).2.symm)
  subst this
  exact ⟨y, f1, g1, f3⟩
end Go.Proofs.YtimeilkelnljnaaGreatDoor
