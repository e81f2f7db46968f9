import Derived.Test.YtgnkjcdkfcikeaaGreatDoorCw5
import Derived.Test.YtgnkjcdkfcikeaaGreatDoorCw6
namespace Go.Proofs.YtgnkjcdkfcikeaaGreatDoor
open Go.RowKit

/-! value.Parse, value.Command -/
set_option maxHeartbeats 400000 in
theorem kinds3 (n : Int) (s : ByteArray) (w : World) (hg : Glob w) (hs : s.size ≤ maxLen) : Calls Tryz.prog 73 #[.int .i64 n, .string s] w fun e w' => e = .returned (.tuple #[.string (decR s).1, .int .i64 (decR s).2]) ∧ Below w.heap.size w w' := by
  go_enter Tryz.func73, Tryz.ntmps73
  go_wp2_with fail
  refine (dec_Parse s _ hg hs).mono ?_
  rintro e w1 ⟨rfl, hb⟩
  go_wp2_with fail
  exact bodyPost_ret (v := (.tuple #[.string (decR s).1, .int .i64 (decR s).2])) (by simp [results, Tryz.results73, go_sem]) rfl ⟨rfl, hb⟩
set_option maxHeartbeats 400000 in
theorem kinds6 (n : Int) (s : ByteArray) (w : World) (hs : s.size ≤ 140737488351232) : Calls Tryz.prog 77 #[.int .i64 n, .string s] w fun e w' => e = .returned (.tuple #[.string (bsB (unqR s.data.toList).1), .int .i64 (unqR s.data.toList).2]) ∧ Below w.heap.size w w' := by
  go_enter Tryz.func77, Tryz.ntmps77
  go_wp2_with fail
  refine (quo_Unquote s _ hs).mono ?_
  rintro e w1 ⟨rfl, hb⟩
  go_wp2_with fail
  exact bodyPost_ret (v := (.tuple #[.string (bsB (unqR s.data.toList).1), .int .i64 (unqR s.data.toList).2])) (by simp [results, Tryz.results77, go_sem]) rfl ⟨rfl, hb⟩
set_option maxHeartbeats 400000 in
theorem kinds4 (s : ByteArray) (w : World) : Calls Tryz.prog 75 #[.string s] w fun e w' => e = .returned (.string s) ∧ Below w.heap.size w w' := by
  go_enter Tryz.func75, Tryz.ntmps75
  go_wp2_with fail
  go_ret
  exact ⟨rfl, Below.refl _ _⟩
set_option maxHeartbeats 400000 in
theorem kinds8 (s : ByteArray) (w : World) : Calls Tryz.prog 82 #[.string s] w fun e w' => e = .returned (.string ⟨#[49]⟩) ∧ Below w.heap.size w w' := by
  go_enter Tryz.func82, Tryz.ntmps82
  go_wp2_with fail
  go_ret
  exact ⟨rfl, Below.refl _ _⟩
def parB (k n : Int) (s : ByteArray) : ByteArray × Int := (bsB (parV k n s.data.toList).1, (parV k n s.data.toList).2)
set_option maxHeartbeats 800000 in
theorem val_Parse (k n : Int) (s : ByteArray) (w : World) (hg : Glob w) (hs : s.size ≤ 140737488351232) :
    Calls Tryz.prog 87 #[.int .i64 k, .int .i64 n, .string s] w fun e w' => e = .returned (.tuple #[.string (parB k n s).1, .int .i64 (parB k n s).2]) ∧ Below w.heap.size w w' := by
  have HG := Lib.hid hg
  have hs2 : s.size ≤ maxLen := by unfold maxLen; omega
  clear hg
  cases hv : vt k n
  · have HVV := Lib.hid (show parB k n s = (⟨#[]⟩, 7) by unfold parB parV; rw [if_pos hv]; rfl)
    go_enter Tryz.func87, Tryz.ntmps87
    go_wp2_with fail
    refine (val_of_any k n _).mono ?_
    rintro e w1 ⟨C, rfl, hb, hC⟩
    have HB := Lib.hid hb
    rw [hv]
    rcases hC with ⟨rfl, -⟩ | ⟨B, -, ⟨-, rfl⟩ | ⟨-, rfl⟩ | ⟨-, rfl⟩ | ⟨-, rfl⟩⟩
    all_goals
      clear hb hv
      try unfold kd0
      try unfold kd1
      try unfold kd2
      try unfold kd3
      go_wp2_with fail
      refine bodyPost_ret (v := .tuple #[.string ⟨#[]⟩, .int .i64 7]) (by simp [results, Tryz.results87, go_sem]) rfl ?_
      rw [HVV.out]
      exact ⟨rfl, HB.out.alloc HB.out.size _⟩
  · go_enter Tryz.func87, Tryz.ntmps87
    go_wp2_with fail
    refine (val_of_any k n _).mono ?_
    rintro e w1 ⟨C, rfl, hb, hC⟩
    have HB := Lib.hid hb
    rw [hv]
    have hx : parV k n s.data.toList = if k = 0 then pbL n s.data.toList else if k = 1 then decP s.data.toList else if k = 2 then unqR s.data.toList else evP s.data.toList := by
      unfold parV
      rw [if_neg (by rw [hv]; decide)]
    rcases hC with ⟨-, h⟩ | ⟨B, hK, ⟨rfl, rfl⟩ | ⟨rfl, rfl⟩ | ⟨rfl, rfl⟩ | ⟨rfl, rfl⟩⟩
    · rw [hv] at h; cases h
    · have hn : 1 ≤ n ∧ n ≤ 128 := by
        unfold vt at hv
        simp at hv
        exact hv
      obtain ⟨hn1, hn2⟩ := hn
      have HVV := Lib.hid (show parB 0 n s = pbR n s by unfold parB pbR; rw [hx]; rfl)
      clear hb hv hK hx
      unfold kd0
      go_wp2_with fail
      refine (val_parseBits n s _ hn1 hn2 hs2).mono ?_
      rintro e w2 ⟨rfl, hb2⟩
      go_wp2_with fail
      refine bodyPost_ret (v := .tuple #[.string (pbR n s).1, .int .i64 (pbR n s).2]) (by simp [results, Tryz.results87, go_sem]) rfl ?_
      rw [HVV.out]
      exact ⟨rfl, ext_trans HB.out (ext_alloc hb2)⟩
    · have HVV := Lib.hid (show parB 1 n s = decR s by unfold parB decR; rw [hx]; rfl)
      clear hb hv hK hx
      unfold kd1
      go_wp2_with fail
      refine (kinds3 n s _ (HG.out.below (HB.out.alloc HB.out.size _)) hs2).mono ?_
      rintro e w2 ⟨rfl, hb2⟩
      go_wp2_with fail
      refine bodyPost_ret (v := .tuple #[.string (decR s).1, .int .i64 (decR s).2]) (by simp [results, Tryz.results87, go_sem]) rfl ?_
      rw [HVV.out]
      exact ⟨rfl, ext_trans HB.out (ext_alloc hb2)⟩
    · have HVV := Lib.hid (show parB 2 n s = (bsB (unqR s.data.toList).1, (unqR s.data.toList).2) by unfold parB; rw [hx]; rfl)
      clear hb hv hK hx
      unfold kd2
      go_wp2_with fail
      refine (kinds6 n s _ hs).mono ?_
      rintro e w2 ⟨rfl, hb2⟩
      go_wp2_with fail
      refine bodyPost_ret (v := .tuple #[.string (bsB (unqR s.data.toList).1), .int .i64 (unqR s.data.toList).2]) (by simp [results, Tryz.results87, go_sem]) rfl ?_
      rw [HVV.out]
      exact ⟨rfl, ext_trans HB.out (ext_alloc hb2)⟩
    · have HVV := Lib.hid (show parB 3 n s = evR s by unfold parB evR; rw [hx]; rfl)
      clear hb hv hK hx
      unfold kd3
      go_wp2_with fail
      refine (val_parseEvent n s _).mono ?_
      rintro e w2 ⟨rfl, hb2⟩
      go_wp2_with fail
      refine bodyPost_ret (v := .tuple #[.string (evR s).1, .int .i64 (evR s).2]) (by simp [results, Tryz.results87, go_sem]) rfl ?_
      rw [HVV.out]
      exact ⟨rfl, ext_trans HB.out (ext_alloc hb2)⟩
end Go.Proofs.YtgnkjcdkfcikeaaGreatDoor
