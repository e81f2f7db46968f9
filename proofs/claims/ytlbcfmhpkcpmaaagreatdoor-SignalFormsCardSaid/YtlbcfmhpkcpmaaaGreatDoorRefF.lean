import Derived.Test.YtlbcfmhpkcpmaaaGreatDoorRefE
namespace Go.Proofs.YtlbcfmhpkcpmaaaGreatDoor
open Go.RowKit

/-- the canonical text of parts without zeros at the ends -/
def textR (n : Bool × List UInt8 × Int) : List UInt8 × Int :=
  if n.2.1 = [] then ([48], 0) else
  if 17 < n.2.1.length ∨ n.2.2 < -400 ∨ 400 < n.2.2 then ([], 9) else
  ((if n.1 then [45] else []) ++ (n.2.1.take 1 ++ ((if 1 < n.2.1.length then [46] ++ n.2.1.drop 1 else []) ++ ([101] ++ Lib.itoa n.2.2))), 0)
def TextPost (r : List UInt8 × Int) (w : World) (e : Ending) (w' : World) : Prop := ∃ o : ByteArray, e = .returned (.tuple #[.string o, .int .i64 r.2]) ∧ o.data.toList = r.1 ∧ Below w.heap.size w w'

theorem below_box3 {w W : World} (h : Below w.heap.size w W) (p q r : Value) : Below w.heap.size w (((W.setCell ⟨w.heap.size, 0, none⟩ p).setCell ⟨w.heap.size, 1, none⟩ q).setCell ⟨w.heap.size, 2, none⟩ r) :=
  ((h.setCell (Nat.le_refl _) _).setCell (Nat.le_refl _) _).setCell (Nat.le_refl _) _
theorem ba_len (o : ByteArray) : o.data.toList.length = o.size := by simp

set_option maxHeartbeats 800000 in
set_option maxRecDepth 100000 in
theorem ref_Text (neg : Bool) (d : ByteArray) (ex : Int) (w : World) (hd : d.size ≤ 1000) (h0 : -1000000 ≤ ex) (h1 : ex ≤ 1000000) :
    Calls Tryz.prog 126 #[.agg #[.bool neg, .string d, .int .i64 ex]] w (TextPost (textR (stripR neg d.data.toList ex)) w) := by
  have HC := Lib.hid (fun W => ref_strip neg d ex W hd h0 h1)
  generalize stripR neg d.data.toList ex = r at HC ⊢
  obtain ⟨b, l, x⟩ := r
  go_enter Tryz.func126, Tryz.ntmps126
  go_wp2_with fail
  refine (HC.out _).mono ?_
  rintro e w1 ⟨o, rfl, ho, hb⟩
  dsimp only at ho ⊢
  obtain ⟨c0, c1, c2⟩ := box3 hb
  obtain ⟨f0, f1, f2⟩ := box3f hb
  obtain ⟨k0, k1, k2⟩ := set3 c0 c1 c2 (.bool b) (.string o) (.int .i64 x)
  have HB := Lib.hid (below_box3 (ext_alloc hb) (.bool b) (.string o) (.int .i64 x))
  have HO := Lib.hid ho
  have hol : l.length = o.size := by rw [← ho, ba_len]
  clear hb ho
  by_cases hz : o.size = 0
  · have he : o.toList.isEmpty = true := by
      have : l = [] := List.length_eq_zero_iff.1 (by omega)
      rw [ByteArray.toList_eq, HO.out, this]; rfl
    have HR := Lib.hid (show textR (b, l, x) = ([48], 0) by
      have : l = [] := List.length_eq_zero_iff.1 (by omega)
      simp [textR, this])
    clear hol hz
    go_wp2_with fail
    go_ret2
    rw [HR.out]
    exact ⟨_, rfl, rfl, HB.out⟩
  have hne := toList_ne o hz
  have hln : l ≠ [] := fun h => hz (by rw [← hol, h]; rfl)
  have hpos : 0 < o.size := by omega
  by_cases hbig : 17 < o.size ∨ x < -400 ∨ 400 < x
  · have HR := Lib.hid (show textR (b, l, x) = ([], 9) by
      unfold textR; rw [if_neg hln, if_pos (by rw [hol]; exact hbig)])
    clear hol hln
    by_cases g1 : 17 < o.size
    · clear hbig
      go_wp2_with fail
      go_ret2
      rw [HR.out]
      exact ⟨_, rfl, rfl, HB.out⟩
    · have g1' : o.size ≤ 17 := by omega
      by_cases g2 : x < -400
      · clear hbig g1
        go_wp2_with fail
        go_ret2
        rw [HR.out]
        exact ⟨_, rfl, rfl, HB.out⟩
      · have g2' : -400 ≤ x := by omega
        have g3 : 400 < x := by omega
        clear hbig g1 g2
        go_wp2_with fail
        go_ret2
        rw [HR.out]
        exact ⟨_, rfl, rfl, HB.out⟩
  · have HR := Lib.hid (show textR (b, l, x) = ((if b then [45] else []) ++ (l.take 1 ++ ((if 1 < l.length then [46] ++ l.drop 1 else []) ++ ([101] ++ Lib.itoa x))), 0) by
      unfold textR; rw [if_neg hln, if_neg (by rw [hol]; exact hbig)])
    obtain ⟨g1, g2, g3⟩ : o.size ≤ 17 ∧ -400 ≤ x ∧ x ≤ 400 := by omega
    have HOL := Lib.hid hol
    have hil := Lib.itoa_length_le x (by omega) (by omega)
    clear hbig hol hln hz
    have E1 := Lib.hid (show (o.extract 0 1).data.toList = l.take 1 by rw [Lib.extract_data, HO.out]; rfl)
    have E2 := Lib.hid (show (o.extract 1 o.size).data.toList = l.drop 1 by
      rw [Lib.extract_data, HO.out, List.take_of_length_le (by rw [List.length_drop]; have := HOL.out; omega)])
    by_cases g4 : 1 < o.size
    · have G4 := Lib.hid (show (1 < l.length) = True by rw [HOL.out]; simpa using g4)
      cases b
      · go_wp2_with fail
        refine (ref_Decimal x (by omega) (by omega) _).mono ?_
        rintro e w2 ⟨o2, rfl, ho2, hb2⟩
        have hl2 : o2.size ≤ 21 := by rw [← ba_len, ho2]; exact hil
        have HO2 := Lib.hid ho2
        have HB2 := Lib.hid (HB.out.trans (hb2.mono HB.out.size))
        clear ho2 hb2
        go_wp2_with fail
        go_ret2
        rw [HR.out]
        refine ⟨_, rfl, ?_, HB2.out⟩
        simp only [ba_app, HO2.out, E1.out, E2.out, Bool.false_eq_true, if_true, if_false, G4.out]
        simp
      · go_wp2_with fail
        refine (ref_Decimal x (by omega) (by omega) _).mono ?_
        rintro e w2 ⟨o2, rfl, ho2, hb2⟩
        have hl2 : o2.size ≤ 21 := by rw [← ba_len, ho2]; exact hil
        have HO2 := Lib.hid ho2
        have HB2 := Lib.hid (HB.out.trans (hb2.mono HB.out.size))
        clear ho2 hb2
        go_wp2_with fail
        go_ret2
        rw [HR.out]
        refine ⟨_, rfl, ?_, HB2.out⟩
        simp only [ba_app, HO2.out, E1.out, E2.out, if_true, G4.out]
        simp
    · have G4 := Lib.hid (show (1 < l.length) = False by rw [HOL.out]; simpa using g4)
      cases b
      · go_wp2_with fail
        refine (ref_Decimal x (by omega) (by omega) _).mono ?_
        rintro e w2 ⟨o2, rfl, ho2, hb2⟩
        have hl2 : o2.size ≤ 21 := by rw [← ba_len, ho2]; exact hil
        have HO2 := Lib.hid ho2
        have HB2 := Lib.hid (HB.out.trans (hb2.mono HB.out.size))
        clear ho2 hb2
        go_wp2_with fail
        go_ret2
        rw [HR.out]
        refine ⟨_, rfl, ?_, HB2.out⟩
        simp only [ba_app, HO2.out, E1.out, Bool.false_eq_true, if_false, G4.out]
        simp
      · go_wp2_with fail
        refine (ref_Decimal x (by omega) (by omega) _).mono ?_
        rintro e w2 ⟨o2, rfl, ho2, hb2⟩
        have hl2 : o2.size ≤ 21 := by rw [← ba_len, ho2]; exact hil
        have HO2 := Lib.hid ho2
        have HB2 := Lib.hid (HB.out.trans (hb2.mono HB.out.size))
        clear ho2 hb2
        go_wp2_with fail
        go_ret2
        rw [HR.out]
        refine ⟨_, rfl, ?_, HB2.out⟩
        simp only [ba_app, HO2.out, E1.out, if_true, if_false, G4.out]
        simp
end Go.Proofs.YtlbcfmhpkcpmaaaGreatDoor
