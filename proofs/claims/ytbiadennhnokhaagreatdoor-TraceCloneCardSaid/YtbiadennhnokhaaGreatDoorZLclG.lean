/- The law TraceClone of package wavestorelaw23 returns true for every input, and its arguments read afterwards as before. Condition: the listed library tables read as the program's text lays them (tied by the given tie; over the pruned copy of the repository). -/
import Derived.Test.YtbiadennhnokhaaGreatDoorRows
import Derived.Test.YtbiadennhnokhaaGreatDoorCards
import Derived.Test.YtbiadennhnokhaaGreatDoorTie
import Derived.Shelf.Vars
import Derived.ProofKit
import Derived.LaidMore
import Derived.OpenShut
import Derived.Stop.Joined
import Derived.Deep.DeepHandedRow
import Derived.Lib.LaidU8
import Derived.Lib.LaidTab
import Derived.Lib.SmallJoins
import Derived.SevenTiedAt
import Derived.Test.YtbiadennhnokhaaGreatDoorZLclE
namespace Go.Proofs.YtbiadennhnokhaaGreatDoor
open Go.Joins Go.ChangeShapes Go.WideShapes Go.ChangeAt Go.RowKit Go.Deep
set_option maxHeartbeats 3200000 in
theorem row_holds : Rows.TraceCloneSaid :=
  OpenClaim.holds_of_wide 7 Tryz.f7 rfl rfl rfl rfl rfl rfl rfl ⟨rfl, rfl, rfl, rfl, rfl⟩ rfl rfl rfl rfl rfl (by as_aux_lemma => kernel_rfl) Tryz.func7 (by
      unfold joinedFacts
      repeat (with_reducible refine Bool.and_eq_true_iff.2 ⟨?_, ?_⟩)
      all_goals as_aux_lemma => kernel_rfl)
    (of_decide_eq_true (by as_aux_lemma => kernel_rfl)) (by unfold Func.isWrapper; first | (rw [if_pos (by decide +kernel)]; kernel_rfl) | (rw [if_neg (by decide +kernel)]; exact ⟨rfl, rfl⟩))
    (fun os started H enc _ => lifted os started H enc)

set_option maxHeartbeats 3200000 in
theorem traceClone_holds : Rows.TraceCloneCardSaid :=
  Claim7.holds_tied_plain_at .later [] [.data, .data, .data, .data, .pinned] true (true, "ab11d0a17c1988a7e0636c95f61648ed09a5e1bdee8517ac3de346d15ab6f0f6") false
    row_holds (fun _ h => by cases h) (by as_aux_lemma => kernel_rfl) (fun _ h => by cases h) traceClone_row_tie rfl ⟨rfl, rfl⟩ (by as_aux_lemma => kernel_rfl) rfl
    (fun f fn hf hfn => by
      obtain rfl : f = 7 := Option.some.inj ((show Tryz.prog.funcNamed "wavestore/wavestorelaw23.TraceClone" = some 7 by as_aux_lemma => kernel_rfl).symm.trans hf) |>.symm
      obtain rfl : fn = Tryz.f7 := (Option.some.inj (Tryz.func7.symm.trans hfn)).symm
      exact ⟨by as_aux_lemma => kernel_rfl, fun j t ht => by
        rw [Tryz.params7] at ht
        have h3 : t = 27 := by
          match j, ht with
          | 0, ht => exact (Option.some.inj ht).symm
          | _ + 1, ht => simp at ht
        rcases h3 with rfl
        · exact (show Tryz.prog.wantsStandIn 27 = false by as_aux_lemma => kernel_rfl)⟩)
    (by as_aux_lemma => kernel_rfl)
#print axioms traceClone_holds
end Go.Proofs.YtbiadennhnokhaaGreatDoor
