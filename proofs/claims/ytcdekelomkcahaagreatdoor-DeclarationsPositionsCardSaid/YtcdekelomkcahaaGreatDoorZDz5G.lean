/- The law DeclarationsPositions of package wavestorelaw25, its row and its card. -/
import Derived.Test.YtcdekelomkcahaaGreatDoorCards
import Derived.Test.YtcdekelomkcahaaGreatDoorTie
import Derived.Test.YtcdekelomkcahaaGreatDoorZDz5E
set_option maxRecDepth 100000
set_option maxHeartbeats 16000000
namespace Go.Proofs.YtcdekelomkcahaaGreatDoor
open Go.Joins Go.ChangeShapes Go.WideShapes Go.ChangeAt Go.RowKit Go.Deep
theorem row_holds:Rows.DeclarationsPositionsSaid:=
 OpenClaim.holds_of_cond 6 Tryz.f6 rfl rfl rfl rfl rfl rfl rfl ⟨rfl,rfl,rfl,rfl,rfl⟩ rfl rfl rfl rfl rfl (by as_aux_lemma=>kernel_rfl) Tryz.func6 (by
  unfold joinedFacts;repeat (with_reducible refine Bool.and_eq_true_iff.2 ⟨?_,?_⟩)
  all_goals as_aux_lemma=>kernel_rfl)
  (of_decide_eq_true (by as_aux_lemma=>kernel_rfl)) (by unfold Func.isWrapper;first|(rw[if_pos (by decide+kernel)];kernel_rfl)|(rw[if_neg (by decide+kernel)];exact⟨rfl,rfl⟩))
  (fun os started H enc _ F=>by rw[OpenClaim.pre_eq_preRow];exact lifted os started H enc F)
theorem declarationsPositions_holds:Rows.DeclarationsPositionsCardSaid:=
 Claim7.holds_tied_plain_at .later [] _ _ _ _ row_holds (fun _ h=>by cases h) (by as_aux_lemma=>kernel_rfl) (fun _ h=>by cases h) declarationsPositions_row_tie rfl ⟨rfl,rfl⟩ (by as_aux_lemma=>kernel_rfl) rfl
  (fun f fn hf hfn=>by
    obtain rfl:f=6:=Option.some.inj ((show Tryz.prog.funcNamed "wavestore/wavestorelaw25.DeclarationsPositions" =some 6 by as_aux_lemma=>kernel_rfl).symm.trans hf)|>.symm
    obtain rfl:fn=Tryz.f6:=(Option.some.inj (Tryz.func6.symm.trans hfn)).symm
    exact⟨by as_aux_lemma=>kernel_rfl,fun j t ht=>by
     rw[Tryz.params6]at ht
     have h3:t=9:=by
      match j,ht with
      |0,ht=>exact(Option.some.inj ht).symm
      |_+1,ht=>simp at ht
     rcases h3 with rfl
     ·exact(show Tryz.prog.wantsStandIn 9=false by as_aux_lemma=>kernel_rfl)⟩)
  (by as_aux_lemma=>kernel_rfl)
#print axioms declarationsPositions_holds
end Go.Proofs.YtcdekelomkcahaaGreatDoor
