import Derived.Test.YtimeilkelnljnaaGreatDoorRf
import Derived.Test.YtimeilkelnljnaaGreatDoorRest
namespace Go.Proofs.YtimeilkelnljnaaGreatDoor
open Go.RowKit

set_option maxHeartbeats 1600000 in
set_option maxRecDepth 100000 in
theorem law_AliasFinds (v : Value) (L : List (Sg × Value)) (w : World) (hg : Glob w) (hs : Sigs w v L) :
    Calls Tryz.prog 3 #[v] w fun e w' => e = .returned (.bool true) ∧ Below w.heap.size w w' := by
  obtain ⟨a, cap, rfl, hc, hm⟩ := hs.s.shape
  have HG := Lib.hid hg
  have HS := Lib.hid hs
  clear hg hs hm
  go_enter Tryz.func3, Tryz.ntmps3
  go_wp2_with fail
  refine (law_awake29 w HG.out).mono ?_
  rintro e w1 ⟨rfl, hb1⟩
  have HB1 := Lib.hid hb1
  clear hb1
  go_wp2_with fail
  refine (ref_Few29 _ L 8 80 _ (HS.out.below HB1.out) (by omega) (by omega)).mono ?_
  rintro e w2 ⟨rfl, rfl⟩
  cases hfew : few29 (L.map Prod.fst) 8 80
  · clear hfew
    go_wp2_with fail
    go_ret
    exact ⟨rfl, HB1.out⟩
  obtain ⟨hfit, hl8, -⟩ := few29_fit hfew (by omega)
  have HF := Lib.hid hfit
  have hl : L.length ≤ 8 := by omega
  clear hfew hfit hl8
  have HF1 := Lib.hid (fun W hW => al_Find (.slice a L.length cap) L W (HG.out.below hW) (HS.out.below hW) HF.out hl)
  have HF2 := Lib.hid (fun W hW => ref_Find29 (.slice a L.length cap) L W (HS.out.below hW) HF.out hl)
  generalize findR (L.map Prod.fst) = r at HF1 HF2
  obtain ⟨st, ds⟩ := r
  go_wp2_with fail
  refine (HF1.out _ HB1.out).mono ?_
  rintro e w3 ⟨v1, v2, rfl, ho1, ho2, hb3⟩
  dsimp only at ho1 ho2
  have HB3 := Lib.hid (ext_trans HB1.out hb3)
  obtain ⟨a1, c1, rfl, -, -⟩ := (SlR.of_own ho1).shape
  obtain ⟨a2, c2, rfl, -, -⟩ := ho2.shape
  have HO1 := Lib.hid (SlR.of_own ho1)
  have HO2 := Lib.hid ho2
  clear ho1 ho2 hb3
  go_wp2_with fail
  refine (HF2.out _ HB3.out).mono ?_
  rintro e w4 ⟨v3, v4, rfl, ho3, ho4, hb4⟩
  dsimp only at ho3 ho4
  have HB4 := Lib.hid (ext_trans HB3.out hb4)
  obtain ⟨a3, c3, rfl, -, -⟩ := (SlR.of_own ho3).shape
  obtain ⟨a4, c4, rfl, -, -⟩ := ho4.shape
  have HI := Lib.hid (ref_Ints _ _ st st w4 (HO1.out.below hb4) (SlR.of_own ho3))
  rw [decide_eq_true (rfl : st = st)] at HI
  have HO2' := Lib.hid (HO2.out.below hb4)
  have HO4 := Lib.hid ho4
  clear ho3 ho4 hb4
  go_wp2_with fail
  refine HI.out.mono ?_
  rintro e w5 ⟨rfl, hb5⟩
  have HSA := Lib.hid (ref_Same _ _ ds ds w5 (HO2'.out.below hb5) (HO4.out.below hb5))
  rw [decide_eq_true (rfl : ds = ds)] at HSA
  have HB5 := Lib.hid (ext_trans HB4.out hb5)
  clear hb5
  go_wp2_with fail
  refine HSA.out.mono ?_
  rintro e w6 ⟨rfl, hb6⟩
  have HB6 := Lib.hid (ext_trans HB5.out hb6)
  clear hb6
  go_wp2_with fail
  go_ret
  exact ⟨rfl, HB6.out⟩
end Go.Proofs.YtimeilkelnljnaaGreatDoor
