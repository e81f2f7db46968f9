import Derived.Test.YtgnkjcdkfcikeaaGreatDoorCw9
namespace Go.Proofs.YtgnkjcdkfcikeaaGreatDoor
open Go.RowKit
set_option linter.unusedSimpArgs false

set_option maxHeartbeats 800000 in
theorem val_CommandN (k n : Int) (s id : ByteArray) (w : World) (hv : vt k n = false) :
    Calls Tryz.prog 28 #[.int .i64 k, .int .i64 n, .string s, .string id] w fun e w' => e = .returned (.string (cmdB k n s id)) ∧ Below w.heap.size w w' := by
  have HVV := Lib.hid (show cmdB k n s id = ⟨#[]⟩ from cmd_no (by rw [hv]; simp))
  go_enter Tryz.func28, Tryz.ntmps28
  go_wp2_with fail
  refine (val_of_any k n _).mono ?_
  rintro e w1 ⟨C, rfl, hb, hC⟩
  have HB := Lib.hid hb
  rw [hv]
  rcases hC with ⟨rfl, -⟩ | ⟨B, -, ⟨-, rfl⟩ | ⟨-, rfl⟩ | ⟨-, rfl⟩ | ⟨-, rfl⟩⟩
  all_goals
    clear hb hv
    try unfold kd0
    try unfold kd1
    try unfold kd2
    try unfold kd3
    go_wp2_with fail
    refine bodyPost_ret (v := .string ⟨#[]⟩) (by simp [results, Tryz.results28, go_sem]) rfl ?_
    rw [HVV.out]
    exact ⟨rfl, HB.out.alloc HB.out.size _⟩
theorem val_Command (k n : Int) (s id : ByteArray) (w : World) (hg : Glob w) (hs : s.size ≤ 100000) (hid : id.size ≤ 100000) :
    Calls Tryz.prog 28 #[.int .i64 k, .int .i64 n, .string s, .string id] w fun e w' => e = .returned (.string (cmdB k n s id)) ∧ Below w.heap.size w w' := by
  cases hv : vt k n
  · exact val_CommandN k n s id w hv
  · have h4 : k = 0 ∨ k = 1 ∨ k = 2 ∨ k = 3 := by
      unfold vt at hv
      simp at hv
      omega
    rcases h4 with rfl | rfl | rfl | rfl
    · exact val_Command0 n s id w hv hs hid
    · exact val_Command1 n s id w hg hv hs hid
    · exact val_Command2 n s id w hg hv hs hid
    · exact val_Command3 n s id w hg hv hs hid
end Go.Proofs.YtgnkjcdkfcikeaaGreatDoor
