/- The closed facts of the law. -/
import Derived.Test.YtbiadennhnokhaaGreatDoorRows
import Derived.Test.YtbiadennhnokhaaGreatDoorCards
import Derived.Test.YtbiadennhnokhaaGreatDoorTie
import Derived.Shelf.Vars
import Derived.ProofKit
import Derived.LaidMore
import Derived.OpenShut
import Derived.Stop.Joined
import Derived.Deep.DeepHandedRow
import Derived.Lib.LaidU8
import Derived.Lib.LaidTab
import Derived.Lib.SmallJoins
import Derived.SevenTiedAt
namespace Go.Proofs.YtbiadennhnokhaaGreatDoor
open Go.Joins Go.ChangeShapes Go.WideShapes Go.ChangeAt Go.RowKit Go.Deep
set_option maxHeartbeats 3200000 in
theorem row_of (lifted : ∀ (os : Os) (_ : os.Started) (H : Type) (enc : TypeId × Value → H), ReturnsInHanded {} Tryz.checked os 10 .any (fun w args => (Rows.aliasRefusesSpec.pre enc Tryz.prog Tryz.f10 [] false w args ∧ laidMetH Tryz.prog Rows.aliasRefusesRow.laid w) ∧ sizedMet enc Tryz.prog Tryz.f10 (OpenSpec.ofChange Rows.aliasRefusesSpec) false w args)
      (Rows.aliasRefusesSpec.post enc Tryz.prog Tryz.f10 false true false false)) : Rows.AliasRefusesSaid :=
  OpenClaim.holds_of_wide 10 Tryz.f10 rfl rfl rfl rfl rfl rfl rfl ⟨rfl, rfl, rfl, rfl, rfl⟩ rfl rfl rfl rfl rfl (by as_aux_lemma => kernel_rfl) Tryz.func10 (by
      unfold joinedFacts
      repeat (with_reducible refine Bool.and_eq_true_iff.2 ⟨?_, ?_⟩)
      all_goals as_aux_lemma => kernel_rfl)
    (of_decide_eq_true (by as_aux_lemma => kernel_rfl)) (by unfold Func.isWrapper; first | (rw [if_pos (by decide +kernel)]; kernel_rfl) | (rw [if_neg (by decide +kernel)]; exact ⟨rfl, rfl⟩))
    (fun os started H enc _ => lifted os started H enc)

set_option maxHeartbeats 3200000 in
theorem card_of (row_holds : Rows.AliasRefusesSaid) : Rows.AliasRefusesCardSaid :=
  Claim7.holds_tied_plain_at .later [] [.data, .data, .data, .data, .pinned] true (true, "ab11d0a17c1988a7e0636c95f61648ed09a5e1bdee8517ac3de346d15ab6f0f6") false
    row_holds (fun _ h => by cases h) (by as_aux_lemma => kernel_rfl) (fun _ h => by cases h) aliasRefuses_row_tie rfl ⟨rfl, rfl⟩ (by as_aux_lemma => kernel_rfl) rfl
    (fun f fn hf hfn => by
      obtain rfl : f = 10 := Option.some.inj ((show Tryz.prog.funcNamed "wavestore/wavestorelaw29.AliasRefuses" = some 10 by as_aux_lemma => kernel_rfl).symm.trans hf) |>.symm
      obtain rfl : fn = Tryz.f10 := (Option.some.inj (Tryz.func10.symm.trans hfn)).symm
      exact ⟨by as_aux_lemma => kernel_rfl, fun j t ht => by
        rw [Tryz.params10] at ht
        have h3 : t = 24 ∨ t = 76 := by
          match j, ht with
          | 0, ht => exact (.inl (Option.some.inj ht).symm)
          | 1, ht => exact (.inl (Option.some.inj ht).symm)
          | 2, ht => exact (.inr ((Option.some.inj ht).symm))
          | _ + 3, ht => simp at ht
        rcases h3 with rfl | rfl
        · exact (show Tryz.prog.wantsStandIn 24 = false by as_aux_lemma => kernel_rfl)
        · exact (show Tryz.prog.wantsStandIn 76 = false by as_aux_lemma => kernel_rfl)⟩)
    (by as_aux_lemma => kernel_rfl)
end Go.Proofs.YtbiadennhnokhaaGreatDoor
