/- law23.TraceTimes. -/
import Derived.Test.YtbiadennhnokhaaGreatDoorZRt1
import Derived.Test.YtbiadennhnokhaaGreatDoorZ40
namespace Go.Proofs.YtbiadennhnokhaaGreatDoor
open Go.RowKit
set_option linter.unusedSimpArgs false

set_option maxHeartbeats 3200000 in
set_option maxRecDepth 100000 in
theorem law_TraceTimes (t : Tr) (p : TP) (tm : Int) (w : World) (ht : TrM w t p) (hi : InT t) (hg : Glob w) (hm : Glm w) :
    Calls Tryz.prog 4 #[p.v t, .int .i64 tm] w fun e w' => e = .returned (.bool true) ∧ Below w.heap.size w w' := by
  obtain ⟨a1, k1, a2, k2, a3, k3, a4, k4, e, -⟩ := ht.open
  have HT := Lib.hid ht
  have HI := Lib.hid hi
  have HG := Lib.hid hg
  have HM := Lib.hid hm
  have HE := Lib.hid e
  have HB1 := Lib.hid (below_new w (boxT t a1 a2 a3 a4 k1 k2 k3 k4) 27)
  have HX1 := Lib.hid (Bx.new w (boxT t a1 a2 a3 a4 k1 k2 k3 k4) 27)
  rw [e]
  clear ht hi hg hm e
  go_enter Tryz.func4, Tryz.ntmps4
  go_wp2_with fail
  generalize w.alloc (.cells (boxT t a1 a2 a3 a4 k1 k2 k3 k4) 27) = w1 at *
  refine (law_awake23 w1 (HG.out.below HB1.out) (HM.out.below HB1.out)).mono ?_
  rintro e w2 ⟨rfl, hb2⟩
  have HB2 := Lib.hid (ext_trans HB1.out hb2)
  have HX2 := Lib.hid (HX1.out.step hb2)
  obtain ⟨p0, p1, p2, p3, p4, p5, p6, p7, p8⟩ := HX2.out.nine
  have hfw := rf_Few23 t p 60 w2 (HT.out.below HB2.out) (by decide) ⟨by have := HI.out.tx; omega, by have := HI.out.tx; omega, by have := HI.out.tx; omega⟩
  rw [HE.out] at hfw
  have HFW := Lib.hid hfw
  clear hb2 hfw
  rcases Bool.eq_false_or_eq_true (fewT t 60) with hfew | hfew
  rotate_left
  · rw [hfew] at HFW
    clear hfew
    go_wp2_with fail
    refine HFW.out.mono ?_
    rintro e w3 ⟨rfl, hb3⟩
    have HB3 := Lib.hid (ext_trans HB2.out hb3)
    clear hb3
    go_wp2_with fail
    go_ret
    exact ⟨rfl, HB3.out⟩
  have HV := Lib.hid (few_fit (by decide) (by decide) hfew (fun x hx => (HI.out.v x hx).2.2.2.1) (fun s hs c hc => ((HI.out.g s hs).2.2 c hc).1))
  rw [hfew] at HFW
  clear hfew
  go_wp2_with fail
  refine HFW.out.mono ?_
  rintro e w3 ⟨rfl, hb3⟩
  have HB3 := Lib.hid (ext_trans HB2.out hb3)
  have HX3 := Lib.hid (HX2.out.step hb3)
  clear p0 p1 p2 p3 p4 p5 p6 p7 p8 hb3
  have hCT := fun W (hW : Below w3.heap.size w3 W) => tr_Times t p W (HT.out.below (ext_trans HB3.out hW)) HV.out
  have hCR := fun W (hW : Below w3.heap.size w3 W) => rf_Times t p W (HT.out.below (ext_trans HB3.out hW)) HV.out
  have hCO := fun W (hW : Below w3.heap.size w3 W) => tr_Off p.vp t.P tm W ((HT.out.below (ext_trans HB3.out hW)).q)
  have hCF := fun W (hW : Below w3.heap.size w3 W) => rf_Off p.vp t.P tm W ((HT.out.below (ext_trans HB3.out hW)).q)
  rw [HE.out] at hCT hCR
  have hp : p.vp = .slice a4 t.P.length k4 := by
    have := HE.out
    unfold TP.v at this
    injection this with this
    simp at this
    exact this.2.2.2
  rw [hp] at hCO hCF
  have HCT := Lib.hid hCT
  have HCR := Lib.hid hCR
  have HCO := Lib.hid hCO
  have HCF := Lib.hid hCF
  have HD3 := Lib.hid (show Below w3.heap.size w3 w3.drew from (Below.refl _ _).drew)
  clear hCT hCR hCO hCF hp HFW
  obtain ⟨p0, p1, p2, p3, p4, p5, p6, p7, p8⟩ := HX3.out.nine
  generalize hTG : timesL t.G = T at *
  clear hTG
  have hIN := fun v u W (h1 : SlR W v T.length (ints T)) (h2 : SlR W u T.length (ints T)) => rf_Ints v u T T W h1 h2
  rw [decide_eq_true (rfl : T = T)] at hIN
  have HIN := Lib.hid hIN
  clear hIN
  go_upto_region 5 with fail
  go_region_held3 (fun w' => w'.cell? ⟨w.heap.size, 0, none⟩ = some (.int .i64 t.sc) ∧ w'.cell? ⟨w.heap.size, 1, none⟩ = some (.string (bsB t.dt)) ∧ w'.cell? ⟨w.heap.size, 2, none⟩ = some (.string (bsB t.vn)) ∧ w'.cell? ⟨w.heap.size, 3, none⟩ = some (.string (bsB t.cm)) ∧ w'.cell? ⟨w.heap.size, 4, none⟩ = some (.slice a1 t.S.length k1) ∧ w'.cell? ⟨w.heap.size, 5, none⟩ = some (.slice a2 t.V.length k2) ∧ w'.cell? ⟨w.heap.size, 6, none⟩ = some (.slice a3 t.G.length k3) ∧ w'.cell? ⟨w.heap.size, 7, none⟩ = some (.slice a4 t.P.length k4) ∧ w'.cell? ⟨w.heap.size, 8, none⟩ = some (.int .i64 t.en))
    (first | exact HX8.out.nine | exact HX7.out.nine | exact HX6.out.nine | exact HX5.out.nine | exact HX4.out.nine | exact HX3.out.nine | go_keep)
    (first
      | (go_at_call 23; (with_reducible refine (HCT.out w3.drew HD3.out).mono ?_); rintro e w4 ⟨v9, rfl, ho9, hb4⟩; obtain ⟨a9, c9, rfl, -, -⟩ := (SlR.of_own (show w4.ownsRow w3.drew.heap.size 3 1 v9 T.length (ints T) from ho9)).shape; have HS4 := Lib.hid (SlR.of_own (show w4.ownsRow w3.drew.heap.size 3 1 _ T.length (ints T) from ho9)); have HD4 := Lib.hid (ext_trans HD3.out hb4); have HX4 := Lib.hid (HX3.out.step HD4.out); have HA4 := HD4; clear hb4 ho9)
      | (go_at_call 24; (with_reducible refine (HCR.out w3.drew HD3.out).mono ?_); rintro e w4 ⟨v8, rfl, hs8, hb4⟩; obtain ⟨a8, c8, rfl, -, -⟩ := hs8.shape; have HS4 := Lib.hid hs8; have HD4 := Lib.hid (ext_trans HD3.out hb4); have HX4 := Lib.hid (HX3.out.step HD4.out); have HBB4 := HD4; clear hb4 hs8)
      | (go_at_call 24; (with_reducible refine (HCR.out w4 HA4.out).mono ?_); rintro e w5 ⟨v8, rfl, hs8, hb5⟩; obtain ⟨a8, c8, rfl, -, -⟩ := hs8.shape; have HS8 := Lib.hid hs8; have HS9 := Lib.hid (HS4.out.below hb5); have HD5 := Lib.hid (ext_trans HD4.out hb5); have HX5 := Lib.hid (HX3.out.step HD5.out); clear hb5 hs8)
      | (go_at_call 23; (with_reducible refine (HCT.out w4 HBB4.out).mono ?_); rintro e w5 ⟨v9, rfl, ho9, hb5⟩; obtain ⟨a9, c9, rfl, -, -⟩ := (SlR.of_own (show w5.ownsRow w4.heap.size 3 1 v9 T.length (ints T) from ho9)).shape; have HS9 := Lib.hid (SlR.of_own (show w5.ownsRow w4.heap.size 3 1 _ T.length (ints T) from ho9)); have HS8 := Lib.hid (HS4.out.below hb5); have HD5 := Lib.hid (ext_trans HD4.out hb5); have HX5 := Lib.hid (HX3.out.step HD5.out); clear hb5 ho9)
      | (go_at_call 22; (with_reducible refine (HIN.out _ _ w5 HS9.out HS8.out).mono ?_); rintro e w6 ⟨rfl, hb6⟩; have HD6 := Lib.hid (ext_trans HD5.out hb6); have HX6 := Lib.hid (HX3.out.step HD6.out); clear hb6)
      | (go_at_call 25; (with_reducible refine (HCO.out w6 HD6.out).mono ?_); rintro e w7 ⟨rfl, hb7⟩; have HD7 := Lib.hid (ext_trans HD6.out hb7); have HX7 := Lib.hid (HX3.out.step HD7.out); have HA7 := HD7; clear hb7)
      | (go_at_call 26; (with_reducible refine (HCF.out w6 HD6.out).mono ?_); rintro e w7 ⟨rfl, hb7⟩; have HD7 := Lib.hid (ext_trans HD6.out hb7); have HX7 := Lib.hid (HX3.out.step HD7.out); have HBB7 := HD7; clear hb7)
      | (go_at_call 26; (with_reducible refine (HCF.out w7 HA7.out).mono ?_); rintro e w8 ⟨rfl, hb8⟩; have HD8 := Lib.hid (ext_trans HD7.out hb8); have HX8 := Lib.hid (HX3.out.step HD8.out); clear hb8)
      | (go_at_call 25; (with_reducible refine (HCO.out w7 HBB7.out).mono ?_); rintro e w8 ⟨rfl, hb8⟩; have HD8 := Lib.hid (ext_trans HD7.out hb8); have HX8 := Lib.hid (HX3.out.step HD8.out); clear hb8)
      | fail "no arm")
  all_goals
    go_wp2_with fail
    go_ret
    exact ⟨rfl, ext_trans HB3.out HD8.out⟩
end Go.Proofs.YtbiadennhnokhaaGreatDoor
