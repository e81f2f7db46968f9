import Derived.Test.YtimeilkelnljnaaGreatDoorPl2
namespace Go.Proofs.YtimeilkelnljnaaGreatDoor
/- Plain laws of Slice and Invert. No program in sight. -/

/-- a change with another value -/
def mvC (f : ByteArray → ByteArray) (c : Ch) : Ch := (c.1, f c.2)
theorem eachL_map (f : ByteArray → ByteArray) : ∀ l : List Ch, eachL (btG f) l = l.map (mvC f)
  | [] => rfl
  | c :: l => by
    have ih := eachL_map f l
    unfold eachL at ih ⊢
    rw [List.filterMap_cons, List.map_cons, ih]
    rfl
theorem val_map (f : ByteArray → ByteArray) (t : Int) : ∀ (l : List Ch) (v : ByteArray), val (f v) (l.map (mvC f)) t = f (val v l t)
  | [], _ => rfl
  | c :: l, v => by
    rw [List.map_cons, val_cons, val_cons, ← val_map f t l]
    congr 1
    by_cases h : c.1 ≤ t
    · rw [if_pos h, if_pos (show (mvC f c).1 ≤ t from h)]; rfl
    · rw [if_neg h, if_neg (show ¬ (mvC f c).1 ≤ t from h)]
theorem mapv_nonDec {f : ByteArray → ByteArray} : ∀ {l : List Ch} {a : Int}, NonDec a l → NonDec a (l.map (mvC f))
  | [], _, _ => trivial
  | _ :: _, _, ⟨h1, h2⟩ => ⟨h1, mapv_nonDec h2⟩

theorem vv0 {n : Int} {s : ByteArray} (h : vv 0 n s = true) : bvIs s = true ∧ (s.size : Int) = n := by
  unfold vv at h
  have h := (Bool.and_eq_true _ _ ▸ h).2
  rw [if_pos rfl] at h
  have h := Bool.and_eq_true _ _ ▸ h
  exact ⟨h.1, of_decide_eq_true h.2⟩
theorem vv0_mk {s : ByteArray} (h : bvIs s = true) : vv 0 s.size s = true := by
  have h2 : 1 ≤ s.size ∧ s.size ≤ 128 := by
    unfold bvIs at h
    simp only [Bool.and_eq_true, decide_eq_true_iff] at h
    exact h.1
  unfold vv vt
  simp [h]
  omega
theorem bvIs_iff {s : ByteArray} : bvIs s = true ↔ 1 ≤ s.size ∧ s.size ≤ 128 ∧ ∀ c ∈ s.data.toList, codeOf c ≠ -1 := by
  unfold bvIs
  simp only [Bool.and_eq_true, decide_eq_true_iff, List.all_eq_true, bne_iff_ne, and_assoc]
theorem ba_ext {a b : ByteArray} (h : a.data.toList = b.data.toList) : a = b := (ba_eq a _ h).trans (ba_eq b _ rfl).symm
theorem invB_code (c : UInt8) : codeOf (invB c) ≠ -1 := by
  rcases inv_kn c with ⟨-, h⟩ | ⟨-, h⟩ | ⟨-, h⟩ | ⟨-, h⟩ <;> rw [h] <;> decide
theorem invB_inv {c : UInt8} (h : codeOf c ≠ -1) : invB (invB c) = c := by
  unfold codeOf at h
  by_cases h0 : c = 48
  · subst h0; decide
  by_cases h1 : c = 49
  · subst h1; decide
  by_cases h2 : c = 120
  · subst h2; decide
  by_cases h3 : c = 122
  · subst h3; decide
  · simp [h0, h1, h2, h3] at h
theorem bvInv_list {s : ByteArray} (h : bvIs s = true) : (bvInv s).data.toList = s.data.toList.map invB := by unfold bvInv; rw [if_pos h]
theorem ba_size (s : ByteArray) : s.size = s.data.toList.length := by simp
theorem bvInv_is {s : ByteArray} (h : bvIs s = true) : bvIs (bvInv s) = true ∧ (bvInv s).size = s.size := by
  have hl := bvInv_list h
  have hs : (bvInv s).size = s.size := by rw [ba_size, hl, List.length_map, ← ba_size]
  refine ⟨bvIs_iff.2 ⟨by have := (bvIs_iff.1 h).1; omega, by have := (bvIs_iff.1 h).2.1; omega, fun c hc => ?_⟩, hs⟩
  rw [hl] at hc
  obtain ⟨d, -, rfl⟩ := List.mem_map.1 hc
  exact invB_code d
theorem bvInv_inv {s : ByteArray} (h : bvIs s = true) : bvInv (bvInv s) = s := by
  apply ba_ext
  rw [bvInv_list (bvInv_is h).1, bvInv_list h, List.map_map]
  conv => rhs; rw [← List.map_id s.data.toList]
  apply List.map_congr_left
  intro c hc
  exact invB_inv ((bvIs_iff.1 h).2.2 c hc)
theorem vv_inv {n : Int} {s : ByteArray} (h : vv 0 n s = true) : vv 0 n (bvInv s) = true := by
  obtain ⟨h1, h2⟩ := vv0 h
  obtain ⟨h3, h4⟩ := bvInv_is h1
  have := vv0_mk h3
  rw [h4, h2] at this
  exact this
theorem vi0 {n : Int} (h : vt 0 n = true) : (vi 0 n).data.toList = List.replicate n.toNat 120 ∧ bvIs (vi 0 n) = true ∧ ((vi 0 n).size : Int) = n := by
  obtain ⟨h1, h2⟩ := vv0 (vv_vi h)
  refine ⟨?_, h1, h2⟩
  have hv := h
  unfold vt at hv
  have h3 : 1 ≤ n ∧ n ≤ 128 := by simpa using hv
  unfold vi
  rw [if_pos h, if_pos rfl]
  unfold allR
  rw [if_neg (by have : codeOf 120 = 2 := by decide
                 rw [this]; omega)]
theorem inv_vi {n : Int} (h : vt 0 n = true) : bvInv (vi 0 n) = vi 0 n := by
  obtain ⟨h1, h2, -⟩ := vi0 h
  apply ba_ext
  rw [bvInv_list h2, h1, List.map_replicate]
  rfl

theorem inv_cases {k n : Int} {l : List Ch} (from_ width : Int) : (∃ e, e ≠ 0 ∧ invR k n l = ((0, 0, []), e) ∧ sliceR k n l from_ width = ((0, 0, []), e)) ∨ (sv k n l = true ∧ k = 0) := by
  cases h : sv k n l
  · exact .inl ⟨1, by decide, by unfold invR; rw [if_pos h], by unfold sliceR; rw [if_pos h]⟩
  · by_cases hk : k ≠ 0
    · exact .inl ⟨7, by decide, by unfold invR; rw [if_neg (by rw [h]; simp), if_pos hk], by unfold sliceR; rw [if_neg (by rw [h]; simp), if_pos hk]⟩
    · exact .inr ⟨rfl, by omega⟩
/-- changes with other values -/
theorem map_Nrm {n w : Int} {l : List Ch} {f : ByteArray → ByteArray} (h : sv 0 n l = true) (hw : vt 0 w = true) (hf : ∀ s, vv 0 n s = true → vv 0 w (f s) = true) : Nrm 0 w (l.map (mvC f)) := by
  have hN := sv_Nrm h
  refine ⟨hw, by rw [List.length_map]; exact hN.2.1, mapv_nonDec hN.2.2.1, fun c hc => ?_⟩
  obtain ⟨d, hd, rfl⟩ := List.mem_map.1 hc
  exact ⟨(hN.2.2.2 d hd).1, hf _ (hN.2.2.2 d hd).2⟩
theorem inv_ok {n : Int} {l : List Ch} (h : sv 0 n l = true) : ∃ q, invR 0 n l = ((0, n, q), 0) ∧ sv 0 n q = true ∧ q.length ≤ l.length ∧ ∀ t, val (vi 0 n) q t = bvInv (val (vi 0 n) l t) := by
  have hv := (sv_iff.1 h).1
  have hN := map_Nrm (f := bvInv) h hv (fun s hs => vv_inv hs)
  refine ⟨normS 0 n (l.map (mvC bvInv)), ?_, hN.sv, ?_, fun t => ?_⟩
  · unfold invR
    rw [if_neg (by rw [h]; simp), if_neg (by simp), eachL_map, hN.made]
  · have := normGo_len 0 (l.map (mvC bvInv)) (vi 0 n)
    rw [List.length_map] at this
    exact this
  · rw [hN.val]
    conv => lhs; rw [← inv_vi hv]
    exact val_map bvInv t l _
theorem inv_back {n : Int} {l q : List Ch} (h : sv 0 n l = true) (hq : invR 0 n l = ((0, n, q), 0)) (hsq : sv 0 n q = true) : invR 0 n q = ((0, n, l), 0) := by
  obtain ⟨q', e1, -, -, e4⟩ := inv_ok h
  have hqq : q' = q := by
    rw [hq] at e1
    exact ((Prod.mk.inj (Prod.mk.inj (Prod.mk.inj e1).1).2).2).symm
  subst hqq
  obtain ⟨l', f1, f2, -, f4⟩ := inv_ok hsq
  rw [f1]
  have : l' = l := sv_unique (by decide) f2 h (fun t _ _ => by
    rw [f4, e4]
    exact bvInv_inv (vv0 (val_vv h t)).1)
  rw [this]
end Go.Proofs.YtimeilkelnljnaaGreatDoor
