/- The law DeclarationsFormats of package wavestorelaw25, its row and its card. -/
import Derived.Test.YtcdekelomkcahaaGreatDoorCards
import Derived.Test.YtcdekelomkcahaaGreatDoorTie
import Derived.Test.YtcdekelomkcahaaGreatDoorZRzFE
set_option maxRecDepth 100000
set_option maxHeartbeats 16000000
namespace Go.Proofs.YtcdekelomkcahaaGreatDoor
open Go.Joins Go.ChangeShapes Go.WideShapes Go.ChangeAt Go.RowKit Go.Deep
theorem row_holds:Rows.DeclarationsFormatsSaid:=
 OpenClaim.holds_of_cond 3 Tryz.f3 rfl rfl rfl rfl rfl rfl rfl ⟨rfl,rfl,rfl,rfl,rfl⟩ rfl rfl rfl rfl rfl (by as_aux_lemma=>kernel_rfl) Tryz.func3 (by
  unfold joinedFacts;repeat (with_reducible refine Bool.and_eq_true_iff.2 ⟨?_,?_⟩)
  all_goals as_aux_lemma=>kernel_rfl)
  (of_decide_eq_true (by as_aux_lemma=>kernel_rfl)) (by unfold Func.isWrapper;first|(rw[if_pos (by decide+kernel)];kernel_rfl)|(rw[if_neg (by decide+kernel)];exact⟨rfl,rfl⟩))
  (fun os started H enc _ F=>by rw[OpenClaim.pre_eq_preRow];exact lifted os started H enc F)
theorem declarationsFormats_holds:Rows.DeclarationsFormatsCardSaid:=
 Claim7.holds_tied_plain_at .later [] _ _ _ _ row_holds (fun _ h=>by cases h) (by as_aux_lemma=>kernel_rfl) (fun _ h=>by cases h) declarationsFormats_row_tie rfl ⟨rfl,rfl⟩ (by as_aux_lemma=>kernel_rfl) rfl
  (fun f fn hf hfn=>by
    obtain rfl:f=3:=Option.some.inj ((show Tryz.prog.funcNamed "wavestore/wavestorelaw25.DeclarationsFormats" =some 3 by as_aux_lemma=>kernel_rfl).symm.trans hf)|>.symm
    obtain rfl:fn=Tryz.f3:=(Option.some.inj (Tryz.func3.symm.trans hfn)).symm
    exact⟨by as_aux_lemma=>kernel_rfl,fun j t ht=>by
     rw[Tryz.params3]at ht
     have h3:t=25∨t=9∨t=3:=by
      match j,ht with
      |0,ht=>exact(.inl (Option.some.inj ht).symm)
      |1,ht=>exact(.inr (.inl (Option.some.inj ht).symm))
      |2,ht=>exact(.inr (.inr ((Option.some.inj ht).symm)))
      |_+3,ht=>simp at ht
     rcases h3 with rfl|rfl|rfl
     ·exact(show Tryz.prog.wantsStandIn 25=false by as_aux_lemma=>kernel_rfl)
     ·exact(show Tryz.prog.wantsStandIn 9=false by as_aux_lemma=>kernel_rfl)
     ·exact(show Tryz.prog.wantsStandIn 3=false by as_aux_lemma=>kernel_rfl)⟩)
  (by as_aux_lemma=>kernel_rfl)
#print axioms declarationsFormats_holds
end Go.Proofs.YtcdekelomkcahaaGreatDoor
