import Derived.Test.YtbiadennhnokhaaGreatDoorZ33
import Derived.Test.YtbiadennhnokhaaGreatDoorZ15
/- trace.Valid. -/
namespace Go.Proofs.YtbiadennhnokhaaGreatDoor
open Go.RowKit
set_option linter.unusedSimpArgs false

def validB (t : Tr) : Bool := decide ((buildF t).2 = 0) && eqT (buildF t).1 t
theorem validB_iff {t : Tr} : validB t = true ↔ validF t := by
  unfold validB validF
  rw [Bool.and_eq_true, decide_eq_true_iff, eqT_iff]
  constructor
  · rintro ⟨h1, h2⟩
    rw [← Prod.eta (buildF t), h1, h2]
  · intro h
    rw [h]
    exact ⟨rfl, rfl⟩
set_option maxHeartbeats 3200000 in
set_option maxRecDepth 100000 in
theorem tr_Valid (t : Tr) (p : TP) (w : World) (ht : TrM w t p) (hF : FB t) (hg : Glob w) (hm : Glm w) (hw : ∀ x ∈ t.V, (Lit.int .i64 x.sg).wf = true) :
    Calls Tryz.prog 18 #[p.v t] w fun e W' => e = .returned (.bool (validB t)) ∧ Below w.heap.size w W' := by
  have HT := Lib.hid ht
  obtain ⟨a1, k1, e1, -, -⟩ := ht.s.shape
  obtain ⟨a2, k2, e2, -, -⟩ := ht.v.shape
  obtain ⟨a3, k3, e3, -, -⟩ := ht.g.s.shape
  obtain ⟨a4, k4, e4, -, -⟩ := ht.q.shape
  have hpv : p.v t = .agg #[.int .i64 t.sc, .string (bsB t.dt), .string (bsB t.vn), .string (bsB t.cm), .slice a1 t.S.length k1, .slice a2 t.V.length k2, .slice a3 p.M.length k3, .slice a4 t.P.length k4, .int .i64 t.en] := by unfold TP.v; rw [e1, e2, e3, e4]
  have hb1 : Below w.heap.size w (w.alloc (.cells #[.int .i64 t.sc, .string (bsB t.dt), .string (bsB t.vn), .string (bsB t.cm), .slice a1 t.S.length k1, .slice a2 t.V.length k2, .slice a3 p.M.length k3, .slice a4 t.P.length k4, .int .i64 t.en] 27)) := (Below.refl _ _).alloc (Nat.le_refl _) _
  have HX := Lib.hid (OwnRow.fresh w #[.int .i64 t.sc, .string (bsB t.dt), .string (bsB t.vn), .string (bsB t.cm), .slice a1 t.S.length k1, .slice a2 t.V.length k2, .slice a3 p.M.length k3, .slice a4 t.P.length k4, .int .i64 t.en] 27)
  have hlt : w.heap.size < (w.alloc (.cells #[.int .i64 t.sc, .string (bsB t.dt), .string (bsB t.vn), .string (bsB t.cm), .slice a1 t.S.length k1, .slice a2 t.V.length k2, .slice a3 p.M.length k3, .slice a4 t.P.length k4, .int .i64 t.en] 27)).heap.size := by simp
  have HBD := Lib.hid (tr_Build t p _ (ht.below hb1) hF (hg.below hb1) (hm.below hb1) hw)
  have HV := Lib.hid (show validB t = (decide ((buildF t).2 = 0) && eqT (buildF t).1 t) from rfl)
  obtain ⟨⟨u, c⟩, hB⟩ : ∃ r, r = buildF t := ⟨_, rfl⟩
  rw [← hB] at HBD HV
  dsimp only at HBD HV
  rw [hpv] at HBD ⊢
  have HB1 := Lib.hid hb1
  have HPV := Lib.hid hpv
  clear ht hF hg hm hw hb1 hB hpv e1 e2 e3 e4
  go_enter Tryz.func18, Tryz.ntmps18
  go_wp2_with fail
  generalize w.alloc (.cells #[.int .i64 t.sc, .string (bsB t.dt), .string (bsB t.vn), .string (bsB t.cm), .slice a1 t.S.length k1, .slice a2 t.V.length k2, .slice a3 p.M.length k3, .slice a4 t.P.length k4, .int .i64 t.en] 27) = w1 at *
  refine HBD.out.mono ?_
  rintro e w2 ⟨q, rfl, hq, hb2⟩
  obtain ⟨x1, y1, f1, -, -⟩ := hq.s.shape
  obtain ⟨x2, y2, f2, -, -⟩ := hq.v.shape
  obtain ⟨x3, y3, f3, -, -⟩ := hq.g.s.shape
  obtain ⟨x4, y4, f4, -, -⟩ := hq.q.shape
  have hqv : q.v u = .agg #[.int .i64 u.sc, .string (bsB u.dt), .string (bsB u.vn), .string (bsB u.cm), .slice x1 u.S.length y1, .slice x2 u.V.length y2, .slice x3 q.M.length y3, .slice x4 u.P.length y4, .int .i64 u.en] := by unfold TP.v; rw [f1, f2, f3, f4]
  have HQV := Lib.hid hqv
  rw [hqv]
  have HQ := Lib.hid hq
  have HB2 := Lib.hid (HB1.out.trans (hb2.mono HB1.out.size))
  have HX2 := Lib.hid (HX.out.below hb2 hlt)
  have hlt2 : w.heap.size < w2.heap.size := Nat.lt_of_lt_of_le hlt hb2.size
  clear hq hb2 f1 f2 f3 f4 hqv HBD HX
  have hba : Below w2.heap.size w2 (w2.alloc (.cells #[.int .i64 u.sc, .string (bsB u.dt), .string (bsB u.vn), .string (bsB u.cm), .slice x1 u.S.length y1, .slice x2 u.V.length y2, .slice x3 q.M.length y3, .slice x4 u.P.length y4, .int .i64 u.en] 27)) := (Below.refl _ _).alloc (Nat.le_refl _) _
  have HBA := Lib.hid (HB2.out.trans (hba.mono HB2.out.size))
  by_cases hc : c = 0
  · subst hc
    have HXA := Lib.hid (HX2.out.below hba hlt2)
    have HY := Lib.hid (OwnRow.fresh w2 #[.int .i64 u.sc, .string (bsB u.dt), .string (bsB u.vn), .string (bsB u.cm), .slice x1 u.S.length y1, .slice x2 u.V.length y2, .slice x3 q.M.length y3, .slice x4 u.P.length y4, .int .i64 u.en] 27)
    have HEQ := tr_Equal u t q p (w2.alloc (.cells #[.int .i64 u.sc, .string (bsB u.dt), .string (bsB u.vn), .string (bsB u.cm), .slice x1 u.S.length y1, .slice x2 u.V.length y2, .slice x3 q.M.length y3, .slice x4 u.P.length y4, .int .i64 u.en] 27)) (HQ.out.below hba) (HT.out.below HBA.out)
    rw [HPV.out, HQV.out] at HEQ
    have HEQ := Lib.hid HEQ
    have HV2 := Lib.hid (show validB t = eqT u t by rw [HV.out]; rfl)
    have p0 := HX2.out.cell (j := 0) rfl
    have p1 := HX2.out.cell (j := 1) rfl
    have p2 := HX2.out.cell (j := 2) rfl
    have p3 := HX2.out.cell (j := 3) rfl
    have p4 := HX2.out.cell (j := 4) rfl
    have p5 := HX2.out.cell (j := 5) rfl
    have p6 := HX2.out.cell (j := 6) rfl
    have p7 := HX2.out.cell (j := 7) rfl
    have p8 := HX2.out.cell (j := 8) rfl
    go_wp2_with fail
    refine HEQ.out.mono ?_
    rintro e w3 ⟨rfl, hb3⟩
    have HB3 := Lib.hid (HBA.out.trans (hb3.mono HBA.out.size))
    clear hb3 p0 p1 p2 p3 p4 p5 p6 p7 p8
    go_wp2_with fail
    go_ret
    exact ⟨ret_bool HV2.out.symm, HB3.out⟩
  · have bc : (c == 0) = false := by simpa using hc
    have HV2 := Lib.hid (show validB t = false by rw [HV.out, decide_eq_false hc]; rfl)
    go_wp2_with fail
    go_ret
    exact ⟨ret_bool HV2.out.symm, HBA.out⟩
end Go.Proofs.YtbiadennhnokhaaGreatDoor
/- trace.Off. -/
namespace Go.Proofs.YtbiadennhnokhaaGreatDoor
open Go.RowKit
set_option linter.unusedSimpArgs false

set_option maxHeartbeats 800000 in
theorem tr_off1 (pt : Nat) (n : Int) (x : Int × Int) (w : World) (hc : w.cell? ⟨pt, 0, none⟩ = some (.int .i64 n)) :
    Calls Tryz.prog 81 #[gpV x, .pointer (some ⟨pt, 0, none⟩)] w fun e w' => e = .returned (.bool (decide (x.1 ≤ n) && decide (n < x.2))) ∧ Below w.heap.size w w' := by
  have hlt := cell_lt hc
  have hne : pt ≠ w.heap.size := Nat.ne_of_lt hlt
  obtain ⟨a, b⟩ := x
  have HB := Lib.hid (show Below w.heap.size w (w.alloc (.cells #[.int .i64 a, .int .i64 b] 57)) from (Below.refl _ _).alloc (Nat.le_refl _) _)
  by_cases h1 : a ≤ n
  · have b1 : decide (a ≤ n) = true := by simpa using h1
    by_cases h2 : n < b
    · have b2 : decide (n < b) = true := by simpa using h2
      have HR := Lib.hid (show true = (decide (a ≤ n) && decide (n < b)) by rw [b1, b2]; rfl)
      go_enter Tryz.func81, Tryz.ntmps81
      go_wp2_with fail
      go_ret
      first | exact ⟨ret_bool HR.out, HB.out⟩ | exact ⟨rfl, HB.out⟩
    · have b2 : decide (n < b) = false := by simpa using h2
      have HR := Lib.hid (show false = (decide (a ≤ n) && decide (n < b)) by rw [b1, b2]; rfl)
      go_enter Tryz.func81, Tryz.ntmps81
      go_wp2_with fail
      go_ret
      first | exact ⟨ret_bool HR.out, HB.out⟩ | exact ⟨rfl, HB.out⟩
  · have b1 : decide (a ≤ n) = false := by simpa using h1
    have HR := Lib.hid (show false = (decide (a ≤ n) && decide (n < b)) by rw [b1]; rfl)
    go_enter Tryz.func81, Tryz.ntmps81
    go_wp2_with fail
    go_ret
    first | exact ⟨ret_bool HR.out, HB.out⟩ | exact ⟨rfl, HB.out⟩
set_option maxHeartbeats 800000 in
theorem tr_Off (v : Value) (P : List Gp) (n : Int) (w : World) (hs : SlR w v P.length (gps P)) :
    Calls Tryz.prog 25 #[v, .int .i64 n] w fun e w' => e = .returned (.bool (inP P n)) ∧ Below w.heap.size w w' := by
  have hb : Below w.heap.size w (w.alloc (.cells #[.int .i64 n] 3)) := (Below.refl _ _).alloc (Nat.le_refl _) _
  have HX := Lib.hid (con_gof w.heap.size (fun g : Int × Int => decide (g.1 ≤ n) && decide (n < g.2)) v P (w.alloc (.cells #[.int .i64 n] 3)) (hs.below hb) (fun x hx U hU => tr_off1 w.heap.size n x U (by
    have h1 := (OwnRow.fresh w #[.int .i64 n] 3).cell (j := 0) rfl
    exact (hU.cell (p := ⟨w.heap.size, 0, none⟩) (by simp)).trans h1)))
  have HB := Lib.hid hb
  clear hb hs
  go_enter Tryz.func25, Tryz.ntmps25
  go_wp2_with fail
  refine HX.out.mono ?_
  rintro e w1 ⟨rfl, hb1⟩
  have HB1 := Lib.hid (HB.out.trans (hb1.mono HB.out.size))
  clear hb1
  go_wp2_with fail
  go_ret
  exact ⟨rfl, HB1.out⟩
end Go.Proofs.YtbiadennhnokhaaGreatDoor
/- ref21.Few. -/
namespace Go.Proofs.YtbiadennhnokhaaGreatDoor
open Go.RowKit
set_option linter.unusedSimpArgs false

def fewH (S : List Sc) (V : List Vr) : Bool := S.all (fun s => decide (s.1.length ≤ 60)) && V.all (fun v => decide (v.nm.length ≤ 60)) && (decide (S.length ≤ 40) && decide (V.length ≤ 140))
set_option maxHeartbeats 1600000 in
set_option maxRecDepth 100000 in
theorem rf_Few21 (v v2 : Value) (S : List Sc) (V : List Vr) (w : World) (hs : SlR w v S.length (scs S)) (hv : SlR w v2 V.length (vrs V)) :
    Calls Tryz.prog 50 #[v, v2] w fun e w' => e = .returned (.bool (fewH S V)) ∧ w' = w := by
  obtain ⟨a, cap, rfl, hc, hm⟩ := hs.shape
  obtain ⟨a2, cap2, rfl, hc2, hm2⟩ := hv.shape
  unfold maxLen at hm hm2
  have HS := Lib.hid hs
  have HV := Lib.hid hv
  clear hs hv
  go_enter Tryz.func50, Tryz.ntmps50
  go_wp2_with fail
  go_loopw [5] (fun i wr => ∃ k : Nat, k ≤ S.length ∧ i = .int .i64 k ∧ (S.take k).all (fun s => decide (s.1.length ≤ 60)) = true ∧ wr = w) (fun i _ => S.length - (intOf i).toNat)
  case atStart => exact ⟨0, Nat.zero_le _, rfl, rfl, rfl⟩
  case round =>
    obtain ⟨k, hk, rfl, hal, rfl⟩ := hrel
    have HA := Lib.hid hal
    clear hal
    by_cases hlt : k < S.length
    · obtain ⟨b, o, rfl, hcell⟩ := HS.out.scs hlt
      have HTK := Lib.hid (show (S.take (k + 1)).all (fun s => decide (s.1.length ≤ 60)) = ((S.take k).all (fun s => decide (s.1.length ≤ 60)) && decide (S[k].1.length ≤ 60)) by
        rw [List.take_succ_eq_append_getElem hlt, List.all_append]; simp)
      have HMM := Lib.hid (List.getElem_mem hlt)
      generalize S[k] = x at *
      obtain ⟨nm, ty, pa⟩ := x
      have d0 : wr.cell? ⟨b, o + k * 3, none⟩ = some (.string (bsB nm)) := hcell 0 _ rfl
      have hsz : (bsB nm).size = nm.length := rfl
      clear hcell
      dsimp only at HTK
      by_cases hx : nm.length ≤ 60
      · have bx : ¬ (60 : Int) < ((bsB nm).size : Int) := by rw [hsz]; omega
        have HA2 := Lib.hid (show (S.take (k + 1)).all (fun s => decide (s.1.length ≤ 60)) = true by rw [HTK.out, HA.out, decide_eq_true hx]; rfl)
        clear hx hsz
        go_wp2_with fail
        go_roundw
        case rel => exact ⟨k + 1, hlt, by go_num, HA2.out, by trivial⟩
        case measure => simp [intOf]; omega
      · have bx : (60 : Int) < ((bsB nm).size : Int) := by rw [hsz]; omega
        have HR := Lib.hid (show false = fewH S V by
          unfold fewH
          have : S.all (fun s => decide (s.1.length ≤ 60)) = false := by
            rw [List.all_eq_false]
            exact ⟨_, HMM.out, by simpa using hx⟩
          rw [this]; rfl)
        clear hx hsz
        go_wp2_with fail
        go_ret
        exact ⟨ret_bool HR.out, rfl⟩
    · obtain rfl : k = S.length := by omega
      have hal := HA.out
      rw [List.take_length] at hal
      have HA1 := Lib.hid hal
      clear hal hlt
      go_wp2_with fail
      go_loopw [6] (fun i wq => ∃ k : Nat, k ≤ V.length ∧ i = .int .i64 k ∧ (V.take k).all (fun v => decide (v.nm.length ≤ 60)) = true ∧ wq = wr) (fun i _ => V.length - (intOf i).toNat)
      case atStart => exact ⟨0, Nat.zero_le _, rfl, rfl, rfl⟩
      case round =>
        obtain ⟨k, hk, rfl, hal, rfl⟩ := hrel
        have HA := Lib.hid hal
        clear hal
        by_cases hlt : k < V.length
        · obtain ⟨b, o, rfl, hcell⟩ := HV.out.vrs hlt
          have HTK := Lib.hid (show (V.take (k + 1)).all (fun v => decide (v.nm.length ≤ 60)) = ((V.take k).all (fun v => decide (v.nm.length ≤ 60)) && decide (V[k].nm.length ≤ 60)) by
            rw [List.take_succ_eq_append_getElem hlt, List.all_append]; simp)
          have HMM := Lib.hid (List.getElem_mem hlt)
          generalize V[k] = x at *
          obtain ⟨nm, ty, sc, sg, rg, mb, lb⟩ := x
          have d0 : wr.cell? ⟨b, o + k * 7, none⟩ = some (.string (bsB nm)) := hcell 0 _ rfl
          have hsz : (bsB nm).size = nm.length := rfl
          clear hcell
          dsimp only at HTK
          by_cases hx : nm.length ≤ 60
          · have bx : ¬ (60 : Int) < ((bsB nm).size : Int) := by rw [hsz]; omega
            have HA2 := Lib.hid (show (V.take (k + 1)).all (fun v => decide (v.nm.length ≤ 60)) = true by rw [HTK.out, HA.out, decide_eq_true hx]; rfl)
            clear hx hsz
            go_wp2_with fail
            go_roundw
            case rel => exact ⟨k + 1, hlt, by go_num, HA2.out, by trivial⟩
            case measure => simp [intOf]; omega
          · have bx : (60 : Int) < ((bsB nm).size : Int) := by rw [hsz]; omega
            have HR := Lib.hid (show false = fewH S V by
              unfold fewH
              have : V.all (fun v => decide (v.nm.length ≤ 60)) = false := by
                rw [List.all_eq_false]
                exact ⟨_, HMM.out, by simpa using hx⟩
              rw [this, Bool.and_false]; rfl)
            clear hx hsz
            go_wp2_with fail
            go_ret
            exact ⟨ret_bool HR.out, rfl⟩
        · obtain rfl : k = V.length := by omega
          have hal := HA.out
          rw [List.take_length] at hal
          have HR := Lib.hid (show (decide (S.length ≤ 40) && decide (V.length ≤ 140)) = fewH S V by unfold fewH; rw [HA1.out, hal]; rfl)
          clear hal hlt
          by_cases h1 : S.length ≤ 40
          · have b1 : (S.length : Int) ≤ 40 := by omega
            by_cases h2 : V.length ≤ 140
            · have b2 : (V.length : Int) ≤ 140 := by omega
              have HR2 := Lib.hid (show true = fewH S V by rw [← HR.out, decide_eq_true h1, decide_eq_true h2]; rfl)
              clear h1 h2
              go_wp2_with fail
              go_ret
              exact ⟨ret_bool HR2.out, rfl⟩
            · have b2 : ¬ (V.length : Int) ≤ 140 := by omega
              have HR2 := Lib.hid (show false = fewH S V by rw [← HR.out, decide_eq_false h2, Bool.and_false])
              clear h1 h2
              go_wp2_with fail
              go_ret
              exact ⟨ret_bool HR2.out, rfl⟩
          · have b1 : ¬ (S.length : Int) ≤ 40 := by omega
            have HR2 := Lib.hid (show false = fewH S V by rw [← HR.out, decide_eq_false h1]; rfl)
            clear h1
            go_wp2_with fail
            go_ret
            exact ⟨ret_bool HR2.out, rfl⟩
end Go.Proofs.YtbiadennhnokhaaGreatDoor
