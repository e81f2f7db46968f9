/- The closed facts of the law. -/
import Derived.Test.YtbiadennhnokhaaGreatDoorRows
import Derived.Test.YtbiadennhnokhaaGreatDoorCards
import Derived.Test.YtbiadennhnokhaaGreatDoorTie
import Derived.Shelf.Vars
import Derived.ProofKit
import Derived.LaidMore
import Derived.OpenShut
import Derived.Stop.Joined
import Derived.Deep.DeepHandedRow
import Derived.Lib.LaidU8
import Derived.Lib.LaidTab
import Derived.Lib.SmallJoins
import Derived.SevenTiedAt
namespace Go.Proofs.YtbiadennhnokhaaGreatDoor
open Go.Joins Go.ChangeShapes Go.WideShapes Go.ChangeAt Go.RowKit Go.Deep
set_option maxHeartbeats 3200000 in
theorem row_of (lifted : ∀ (os : Os) (_ : os.Started) (H : Type) (enc : TypeId × Value → H), ReturnsInHanded {} Tryz.checked os 11 .any (fun w args => (Rows.aliasSourceSpec.pre enc Tryz.prog Tryz.f11 [] false w args ∧ laidMetH Tryz.prog Rows.aliasSourceRow.laid w) ∧ sizedMet enc Tryz.prog Tryz.f11 (OpenSpec.ofChange Rows.aliasSourceSpec) false w args)
      (Rows.aliasSourceSpec.post enc Tryz.prog Tryz.f11 false true false false)) : Rows.AliasSourceSaid :=
  OpenClaim.holds_of_wide 11 Tryz.f11 rfl rfl rfl rfl rfl rfl rfl ⟨rfl, rfl, rfl, rfl, rfl⟩ rfl rfl rfl rfl rfl (by as_aux_lemma => kernel_rfl) Tryz.func11 (by
      unfold joinedFacts
      repeat (with_reducible refine Bool.and_eq_true_iff.2 ⟨?_, ?_⟩)
      all_goals as_aux_lemma => kernel_rfl)
    (of_decide_eq_true (by as_aux_lemma => kernel_rfl)) (by unfold Func.isWrapper; first | (rw [if_pos (by decide +kernel)]; kernel_rfl) | (rw [if_neg (by decide +kernel)]; exact ⟨rfl, rfl⟩))
    (fun os started H enc _ => lifted os started H enc)

set_option maxHeartbeats 3200000 in
theorem card_of (row_holds : Rows.AliasSourceSaid) : Rows.AliasSourceCardSaid :=
  Claim7.holds_tied_plain_at .later [] [.data, .data, .data, .data, .pinned] true (true, "ab11d0a17c1988a7e0636c95f61648ed09a5e1bdee8517ac3de346d15ab6f0f6") false
    row_holds (fun _ h => by cases h) (by as_aux_lemma => kernel_rfl) (fun _ h => by cases h) aliasSource_row_tie rfl ⟨rfl, rfl⟩ (by as_aux_lemma => kernel_rfl) rfl
    (fun f fn hf hfn => by
      obtain rfl : f = 11 := Option.some.inj ((show Tryz.prog.funcNamed "wavestore/wavestorelaw29.AliasSource" = some 11 by as_aux_lemma => kernel_rfl).symm.trans hf) |>.symm
      obtain rfl : fn = Tryz.f11 := (Option.some.inj (Tryz.func11.symm.trans hfn)).symm
      exact ⟨by as_aux_lemma => kernel_rfl, fun j t ht => by
        rw [Tryz.params11] at ht
        have h3 : t = 27 ∨ t = 3 := by
          match j, ht with
          | 0, ht => exact (.inl (Option.some.inj ht).symm)
          | 1, ht => exact (.inr ((Option.some.inj ht).symm))
          | 2, ht => exact (.inr ((Option.some.inj ht).symm))
          | 3, ht => exact (.inr ((Option.some.inj ht).symm))
          | _ + 4, ht => simp at ht
        rcases h3 with rfl | rfl
        · exact (show Tryz.prog.wantsStandIn 27 = false by as_aux_lemma => kernel_rfl)
        · exact (show Tryz.prog.wantsStandIn 3 = false by as_aux_lemma => kernel_rfl)⟩)
    (by as_aux_lemma => kernel_rfl)
end Go.Proofs.YtbiadennhnokhaaGreatDoor
