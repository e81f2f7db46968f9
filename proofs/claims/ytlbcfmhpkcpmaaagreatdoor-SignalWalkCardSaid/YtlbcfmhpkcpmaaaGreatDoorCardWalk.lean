/- The law SignalWalk of package wavestorelaw22 returns true for every signal, and its argument reads afterwards as before. Condition: the listed library tables read as the program's text lays them (tied by the given tie; over the pruned copy of the repository). -/
import Derived.Test.YtlbcfmhpkcpmaaaGreatDoorFrame
namespace Go.Proofs.YtlbcfmhpkcpmaaaGreatDoor
open Go

theorem signalWalk_holds : Rows.SignalWalkCardSaid :=
  Claim7.holds_tied_plain_at .later [] [.data, .data, .data, .data, .pinned] true (true, "5dbc15583835b939f98a57a0893457288649e66a09e46a66ea224b02b2d602d6") false
    signalWalk_row (fun _ h => by cases h) (by kernel_rfl) (fun _ h => by cases h) signalWalk_row_tie rfl ⟨rfl, rfl⟩ (by kernel_rfl) rfl
    (fun f fn hf hfn => by
      obtain rfl : f = 5 := Option.some.inj ((show Tryz.prog.funcNamed "wavestore/wavestorelaw22.SignalWalk" = some 5 by kernel_rfl).symm.trans hf) |>.symm
      obtain rfl : fn = Tryz.f5 := (Option.some.inj (Tryz.func5.symm.trans hfn)).symm
      exact ⟨by kernel_rfl, fun j t ht => by
        rw [Tryz.params5] at ht
        have h3 : t = 24 := by
          rcases j with _ | j
          · simpa using ht.symm
          · simp at ht
        subst h3
        exact (show Tryz.prog.wantsStandIn 24 = false by kernel_rfl)⟩)
    (by kernel_rfl)
#print axioms signalWalk_holds
end Go.Proofs.YtlbcfmhpkcpmaaaGreatDoor
