/- The law ExporterCodes of package wavestorelaw28 returns true for every input, and its arguments read afterwards as before. Condition: the listed library tables read as the program's text lays them (tied by the given tie; over the pruned copy of the repository). -/
import Derived.Test.YtfppgpamkdkckaaGreatDoorZFME
set_option maxRecDepth 100000
set_option maxHeartbeats 16000000
namespace Go.Proofs.YtfppgpamkdkckaaGreatDoor
open Go.Joins Go.ChangeShapes Go.WideShapes Go.ChangeAt Go.RowKit Go.Deep
theorem row_holds:Rows.ExporterCodesSaid:=
 OpenClaim.holds_of_wide 3 Tryz.f3 rfl rfl rfl rfl rfl rfl rfl ⟨rfl,rfl,rfl,rfl,rfl⟩ rfl rfl rfl rfl rfl (by as_aux_lemma=>kernel_rfl) Tryz.func3 (by
  unfold joinedFacts;repeat (with_reducible refine Bool.and_eq_true_iff.2 ⟨?_,?_⟩)
  all_goals as_aux_lemma=>kernel_rfl)
  (of_decide_eq_true (by as_aux_lemma=>kernel_rfl)) (by unfold Func.isWrapper;first|(rw[if_pos (by decide+kernel)];kernel_rfl)|(rw[if_neg (by decide+kernel)];exact⟨rfl,rfl⟩))
  (fun os started H enc _=>lifted os started H enc)
theorem exporterCodes_holds:Rows.ExporterCodesCardSaid:=
 Claim7.holds_tied_plain_at .later [] [.data,.data,.data,.data,.pinned] true (true, "ea212f05f9dd7a37691b0b2e1f6f5f1968a670f2293cde5c0f90cd1b425158f1") false
  row_holds (fun _ h=>by cases h) (by as_aux_lemma=>kernel_rfl) (fun _ h=>by cases h) exporterCodes_row_tie rfl ⟨rfl,rfl⟩ (by as_aux_lemma=>kernel_rfl) rfl
  (fun f fn hf hfn=>by
    obtain rfl:f=3:=Option.some.inj ((show Tryz.prog.funcNamed "wavestore/wavestorelaw28.ExporterCodes" =some 3 by as_aux_lemma=>kernel_rfl).symm.trans hf)|>.symm
    obtain rfl:fn=Tryz.f3:=(Option.some.inj (Tryz.func3.symm.trans hfn)).symm
    exact⟨by as_aux_lemma=>kernel_rfl,fun j t ht=>by
     rw[Tryz.params3]at ht
     have h3:t=3∨t=9:=by
      match j,ht with
      |0,ht=>exact(.inl (Option.some.inj ht).symm)
      |1,ht=>exact(.inr ((Option.some.inj ht).symm))
      |_+2,ht=>simp at ht
     rcases h3 with rfl|rfl
     ·exact(show Tryz.prog.wantsStandIn 3=false by as_aux_lemma=>kernel_rfl)
     ·exact(show Tryz.prog.wantsStandIn 9=false by as_aux_lemma=>kernel_rfl)⟩)
  (by as_aux_lemma=>kernel_rfl)
#print axioms exporterCodes_holds
end Go.Proofs.YtfppgpamkdkckaaGreatDoor
