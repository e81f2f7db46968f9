/- The law AliasForms of package wavestorelaw29 returns true for every input, and its arguments read afterwards as before. Condition: the listed library tables read as the program's text lays them (tied by the given tie; over the pruned copy of the repository). -/
import Derived.Test.YtimeilkelnljnaaGreatDoorRows
import Derived.Test.YtimeilkelnljnaaGreatDoorCards
import Derived.Test.YtimeilkelnljnaaGreatDoorTie
import Derived.Test.YtimeilkelnljnaaGreatDoorFrm
import Derived.Test.YtimeilkelnljnaaGreatDoorFit
import Derived.ProofKit
import Derived.LaidMore
import Derived.OpenShut
import Derived.Stop.Joined
import Derived.Deep.DeepHandedRow
import Derived.Lib.LaidU8
import Derived.Lib.LaidTab
import Derived.Lib.SmallJoins
import Derived.SevenTiedAt
namespace Go.Proofs.YtimeilkelnljnaaGreatDoor
open Go.Joins Go.ChangeShapes Go.WideShapes Go.ChangeAt Go.RowKit Go.Deep

theorem own : ownKnob Tryz.prog.godebug = none := by kernel_rfl
theorem laidOut : laidOutB Tryz.prog = true := by kernel_rfl

/-- the witness: the heap that the door's run leaves, with Go's pinned table laid by hand -/
noncomputable def laidWorld (os : Os) : World :=
  let w0 := World.doorLaid Tryz.prog 4000 os
  { w0 with heap := w0.heap.modify 2 fun
    | .cells _ t frozen => .cells (Lib.firstTab.map fun z => Value.int .u8 z).toArray t frozen
    | o => o }
theorem laid_met (os : Os) (args : Array Value) : laidMetH Tryz.prog Rows.aliasFormsRow.laid ((laidWorld os).forCall (fun _ _ => 0) ⟨#[], args, []⟩).memory :=
  laidMetH_of_parts3 (fuel := 8) (laidMet_of_run' 8 (by kernel_rfl) (by kernel_rfl)) (by kernel_rfl) (by kernel_rfl)

theorem glob_of_laid {W : World} (h : laidMetH Tryz.prog Rows.aliasFormsRow.laid W) : Glob W := by
  rw [MakeChecks.laidMetH_plain _ _ _ (by kernel_rfl)] at h
  obtain ⟨g, t, cs, fuel, p, h1, h2, h3, h4⟩ := Lib.laidMet.reads h (.tail _ (.tail _ (.head _)))
  obtain rfl := Option.some.inj (globalPow.symm.trans h1)
  obtain rfl := Option.some.inj ((show (Tryz.prog.globals[1]?).map (·.type) = some 196 by kernel_rfl).symm.trans h2)
  unfold Glob Lib.TabIs
  rw [h3, ← Lib.cells_of_tab (k := .u64) (zs := Lib.pow10Tab) Tryz.underlying196 Tryz.underlying116 (by kernel_rfl) (by kernel_rfl) h4]
theorem args_open {H : Type} {enc : TypeId × Value → H} {P : Program} {w : World} {base : Nat} {spare : Nat → Bool} {held : Bool} {t0 t1 t2 t3 : TypeId} {args : Array Value} {ds : List (DataW H)} {ps : List MemPlace} (h : DataW.TrodAll enc P w base spare held [t0, t1, t2, t3] args.toList ds ps) :
    ∃ v0 v1 v2 v3 d0 d1 d2 d3 p0 p1 p2 p3, args = #[v0, v1, v2, v3] ∧ ds = [d0, d1, d2, d3] ∧ ps = p0 ++ (p1 ++ (p2 ++ (p3 ++ []))) ∧ DataW.Trod enc P w base spare held t0 v0 d0 p0 ∧ DataW.Trod enc P w base spare held t1 v1 d1 p1 ∧ DataW.Trod enc P w base spare held t2 v2 d2 p2 ∧ DataW.Trod enc P w base spare held t3 v3 d3 p3 := by
  obtain ⟨v0, vs0, d0, ds0, p0, q0, hargs, rfl, rfl, h0, hr0⟩ := trodAll_cons h
  obtain ⟨v1, vs1, d1, ds1, p1, q1, rfl, rfl, rfl, h1, hr1⟩ := trodAll_cons hr0
  obtain ⟨v2, vs2, d2, ds2, p2, q2, rfl, rfl, rfl, h2, hr2⟩ := trodAll_cons hr1
  obtain ⟨v3, vs3, d3, ds3, p3, q3, rfl, rfl, rfl, h3, hr3⟩ := trodAll_cons hr2
  obtain ⟨rfl, rfl, rfl⟩ := trodAll_nil hr3
  exact ⟨v0, v1, v2, v3, d0, d1, d2, d3, p0, p1, p2, p3, by cases args; simp_all, rfl, rfl, h0, h1, h2, h3⟩
theorem args_shut {H : Type} {enc : TypeId × Value → H} {P : Program} {w : World} {base : Nat} {spare : Nat → Bool} {held : Bool} {t0 t1 t2 t3 : TypeId} {v0 v1 v2 v3 : Value} {d0 d1 d2 d3 : DataW H} {p0 p1 p2 p3 : List MemPlace} (h0 : DataW.Trod enc P w base spare held t0 v0 d0 p0) (h1 : DataW.Trod enc P w base spare held t1 v1 d1 p1) (h2 : DataW.Trod enc P w base spare held t2 v2 d2 p2) (h3 : DataW.Trod enc P w base spare held t3 v3 d3 p3) :
    DataW.TrodAll enc P w base spare held [t0, t1, t2, t3] [v0, v1, v2, v3] [d0, d1, d2, d3] (p0 ++ (p1 ++ (p2 ++ (p3 ++ [])))) :=
  ⟨p0, _, h0, ⟨p1, _, h1, ⟨p2, _, h2, ⟨p3, _, h3, trodAll_mk0, rfl⟩, rfl⟩, rfl⟩, rfl⟩

set_option maxRecDepth 100000 in
theorem lifted (os : Os) (started : os.Started) (H : Type) (enc : TypeId × Value → H) :
    ReturnsInHanded {} Tryz.checked os 4 .any (fun w args => (Rows.aliasFormsSpec.pre enc Tryz.prog Tryz.f4 [] false w args ∧ laidMetH Tryz.prog Rows.aliasFormsRow.laid w) ∧ sizedMet enc Tryz.prog Tryz.f4 (OpenSpec.ofChange Rows.aliasFormsSpec) false w args)
      (Rows.aliasFormsSpec.post enc Tryz.prog Tryz.f4 false true false false) := by
  refine returnsInHanded_of_change_and (C := Tryz.checked) (X := fun w _ => laidMetH Tryz.prog Rows.aliasFormsRow.laid w) (fun _ _ _ hh h => h.of_heap hh) own started (by kernel_rfl) Tryz.func4
    (ChangeSpec.witness_shaped (enc := enc) (C := Tryz.checked) (os := os) (X := fun w _ => laidMetH Tryz.prog Rows.aliasFormsRow.laid w) false (laidWorld os) #[.slice none 0 0, .slice none 0 0, .slice none 0 0, .string ⟨#[]⟩] 8 rfl (World.shaped_of_RefB (by kernel_rfl) (by kernel_rfl)) (by kernel_rfl) (by kernel_rfl) (by kernel_rfl) (laid_met os _)) ?_
  intro W base args ds gs before hval0 hW _ _ hL _
  have hval : ∀ (j : Nat) t v, Tryz.f4.params[j]? = some t → args[j]? = some v → Value.okWide Tryz.prog W .any base t v := hval0
  have hW' := hW
  obtain ⟨p, q, hA0, hV, rfl, hfz, hnd⟩ := hW
  have hA : DataW.TrodAll enc Tryz.prog W 0 (fun _ => true) true Tryz.f4.params.toList args.toList ds p := hA0
  rw [Tryz.params4] at hA hval
  obtain ⟨v0, v1, v2, v3, d0, d1, d2, d3, p0, p1, p2, p3, rfl, rfl, hp, h0, h1, h2, h3⟩ := args_open hA
  subst hp
  obtain ⟨rfl, rfl⟩ := trodVars_none hV
  have hlt : ∀ x ∈ p0 ++ (p1 ++ (p2 ++ (p3 ++ []))), x.block < W.heap.size := fun x hx => hW'.lt x (by simpa using hx)
  have k0 := h0
  have k1 := h1
  have k2 := h2
  have k3 := h3
  obtain ⟨sa0, sn0, sc0, rfl⟩ := okWide_slice Tryz.underlying22 (hval 0 22 v0 rfl rfl)
  obtain ⟨f0, hf0⟩ := h0
  obtain ⟨u0, l0, eu0, hs0⟩ := open_sigs hf0
  have eu0' : Value.slice sa0 sn0 sc0 = u0 := by injection eu0
  subst eu0'
  obtain ⟨sa1, sn1, sc1, rfl⟩ := okWide_slice Tryz.underlying22 (hval 1 22 v1 rfl rfl)
  obtain ⟨f1, hf1⟩ := h1
  obtain ⟨u1, l1, eu1, hs1⟩ := open_sigs hf1
  have eu1' : Value.slice sa1 sn1 sc1 = u1 := by injection eu1
  subst eu1'
  obtain ⟨sa2, sn2, sc2, rfl⟩ := okWide_slice Tryz.underlying26 (hval 2 26 v2 rfl rfl)
  obtain ⟨f2, hf2⟩ := h2
  obtain ⟨u2, l2, eu2, hs2⟩ := open_ders hf2
  have eu2' : Value.slice sa2 sn2 sc2 = u2 := by injection eu2
  subst eu2'
  obtain ⟨s3, rfl⟩ := okWide_string Tryz.underlying9 (hval 3 9 v3 rfl rfl)
  clear hA0 hval0
  refine (law_AliasForms _ _ _ s3 l0 l1 l2 W (glob_of_laid hL) hs0 hs1 hs2).mono fun e W' ⟨he, bel⟩ => ?_
  subst he
  refine ⟨_, rfl, _, _, _, [], p0 ++ (p1 ++ (p2 ++ (p3 ++ []))), [], hW', ?_, ?_, ?_, bel.frame _, fun h => by cases h⟩
  · exact trodAll_mk1 (shut_bool Tryz.underlying4 _)
  · exact args_shut (Below.trod laidOut (by kernel_rfl) (of_decide_eq_true (by kernel_rfl)) k0 bel (fun x hx => hlt x (by simp [hx]))) (Below.trod laidOut (by kernel_rfl) (of_decide_eq_true (by kernel_rfl)) k1 bel (fun x hx => hlt x (by simp [hx]))) (Below.trod laidOut (by kernel_rfl) (of_decide_eq_true (by kernel_rfl)) k2 bel (fun x hx => hlt x (by simp [hx]))) (Below.trod laidOut (by kernel_rfl) (of_decide_eq_true (by kernel_rfl)) k3 bel (fun x hx => hlt x (by simp [hx])))
  · rfl

theorem row_holds : Rows.AliasFormsSaid :=
  OpenClaim.holds_of_wide 4 Tryz.f4 rfl rfl rfl rfl rfl rfl rfl ⟨rfl, rfl, rfl, rfl, rfl⟩ rfl rfl rfl rfl rfl (by kernel_rfl) Tryz.func4 (by kernel_rfl)
    (of_decide_eq_true (by kernel_rfl)) (by unfold Func.isWrapper; first | (rw [if_pos (by decide +kernel)]; kernel_rfl) | (rw [if_neg (by decide +kernel)]; exact ⟨rfl, rfl⟩))
    (fun os started H enc _ => lifted os started H enc)

theorem aliasForms_holds : Rows.AliasFormsCardSaid :=
  Claim7.holds_tied_plain_at .later [] [.data, .data, .data, .data, .pinned] true (true, "c8bd96e95f0aac797538425c2c03f6a14512d765480cd994909dee1d07fc8d11") false
    row_holds (fun _ h => by cases h) (by kernel_rfl) (fun _ h => by cases h) aliasForms_row_tie rfl ⟨rfl, rfl⟩ (by kernel_rfl) rfl
    (fun f fn hf hfn => by
      obtain rfl : f = 4 := Option.some.inj ((show Tryz.prog.funcNamed "wavestore/wavestorelaw29.AliasForms" = some 4 by kernel_rfl).symm.trans hf) |>.symm
      obtain rfl : fn = Tryz.f4 := (Option.some.inj (Tryz.func4.symm.trans hfn)).symm
      exact ⟨by kernel_rfl, fun j t ht => by
        rw [Tryz.params4] at ht
        have h3 : t = 22 ∨ t = 26 ∨ t = 9 := by
          match j, ht with
          | 0, ht => exact (.inl (Option.some.inj ht).symm)
          | 1, ht => exact (.inl (Option.some.inj ht).symm)
          | 2, ht => exact (.inr (.inl (Option.some.inj ht).symm))
          | 3, ht => exact (.inr (.inr ((Option.some.inj ht).symm)))
          | _ + 4, ht => simp at ht
        rcases h3 with rfl | rfl | rfl
        · exact (show Tryz.prog.wantsStandIn 22 = false by kernel_rfl)
        · exact (show Tryz.prog.wantsStandIn 26 = false by kernel_rfl)
        · exact (show Tryz.prog.wantsStandIn 9 = false by kernel_rfl)⟩)
    (by kernel_rfl)
#print axioms aliasForms_holds
end Go.Proofs.YtimeilkelnljnaaGreatDoor
