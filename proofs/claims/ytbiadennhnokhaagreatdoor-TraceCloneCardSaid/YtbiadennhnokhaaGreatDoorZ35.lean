import Derived.Test.YtbiadennhnokhaaGreatDoorZ34
import Derived.Test.YtbiadennhnokhaaGreatDoorZ09
/- ref23.Few. -/
namespace Go.Proofs.YtbiadennhnokhaaGreatDoor
open Go.RowKit
set_option linter.unusedSimpArgs false

def fewG (lim : Int) : Int → List Sg → Bool
  | _, [] => true
  | n, s :: G => !decide (lim < n + s.2.2.length) && few s.2.2 lim && fewG lim (n + s.2.2.length) G
def fewT (t : Tr) (lim : Int) : Bool := fewH t.S t.V && (decide (t.G.length ≤ 70) && decide (t.P.length ≤ 20) && decide (t.dt.length + t.vn.length + t.cm.length ≤ 700)) && fewG lim 0 t.G
set_option maxHeartbeats 1600000 in
set_option maxRecDepth 100000 in
theorem rf_Few23 (t : Tr) (p : TP) (lim : Int) (w : World) (ht : TrM w t p) (hl : 0 ≤ lim ∧ lim ≤ 1000) (htx : t.dt.length ≤ 140737488355328 ∧ t.vn.length ≤ 140737488355328 ∧ t.cm.length ≤ 140737488355328) :
    Calls Tryz.prog 13 #[p.v t, .int .i64 lim] w fun e w' => e = .returned (.bool (fewT t lim)) ∧ Below w.heap.size w w' := by
  obtain ⟨a1, k1, e1, -, -⟩ := ht.s.shape
  obtain ⟨a2, k2, e2, -, -⟩ := ht.v.shape
  obtain ⟨a3, k3, e3, hk3, hm3⟩ := ht.g.s.shape
  obtain ⟨a4, k4, e4, -, -⟩ := ht.q.shape
  have hGL := ht.len
  unfold maxLen at hm3
  have hb1 : Below w.heap.size w (w.alloc (.cells #[.int .i64 t.sc, .string (bsB t.dt), .string (bsB t.vn), .string (bsB t.cm), .slice a1 t.S.length k1, .slice a2 t.V.length k2, .slice a3 t.G.length k3, .slice a4 t.P.length k4, .int .i64 t.en] 27)) := (Below.refl _ _).alloc (Nat.le_refl _) _
  have HX := Lib.hid (OwnRow.fresh w #[.int .i64 t.sc, .string (bsB t.dt), .string (bsB t.vn), .string (bsB t.cm), .slice a1 t.S.length k1, .slice a2 t.V.length k2, .slice a3 t.G.length k3, .slice a4 t.P.length k4, .int .i64 t.en] 27)
  have HT := Lib.hid (ht.below hb1)
  have HB1 := Lib.hid hb1
  have hfh := rf_Few21 p.vs p.vv t.S t.V _ (ht.s.below hb1) (ht.v.below hb1)
  rw [e1, e2] at hfh
  have HFH := Lib.hid hfh
  have HE3 := Lib.hid e3
  have HGL := Lib.hid hGL
  rw [hGL] at hk3
  unfold TP.v
  rw [e1, e2, e3, e4, hGL]
  have z1 : (bsB t.dt).size = t.dt.length := rfl
  have z2 : (bsB t.vn).size = t.vn.length := rfl
  have z3 : (bsB t.cm).size = t.cm.length := rfl
  obtain ⟨u1, u2, u3⟩ := htx
  by_cases h0 : fewH t.S t.V = true
  · rw [h0] at HFH
    by_cases h1 : t.G.length ≤ 70
    · have b1 : ¬ (70 : Int) < (t.G.length : Int) := by omega
      by_cases h2 : t.P.length ≤ 20
      · have b2 : ¬ (20 : Int) < (t.P.length : Int) := by omega
        by_cases h3 : t.dt.length + t.vn.length + t.cm.length ≤ 700
        · have b3 : ¬ (700 : Int) < ((bsB t.dt).size : Int) + (bsB t.vn).size + (bsB t.cm).size := by omega
          have HFT := Lib.hid (show fewT t lim = fewG lim 0 t.G by unfold fewT; rw [h0, decide_eq_true h1, decide_eq_true h2, decide_eq_true h3]; rfl)
          clear ht e1 e2 e3 e4 hGL hb1 hfh h0 h1 h2 h3
          go_enter Tryz.func13, Tryz.ntmps13
          go_wp2_with fail
          refine (HFH.out).mono ?_
          rintro e w2 ⟨rfl, rfl⟩
          go_wp2_with fail
          have hwz : w.heap.size < (w.alloc (.cells #[.int .i64 t.sc, .string (bsB t.dt), .string (bsB t.vn), .string (bsB t.cm), .slice a1 t.S.length k1, .slice a2 t.V.length k2, .slice a3 t.G.length k3, .slice a4 t.P.length k4, .int .i64 t.en] 27)).heap.size := by simp
          generalize w.alloc (.cells #[.int .i64 t.sc, .string (bsB t.dt), .string (bsB t.vn), .string (bsB t.cm), .slice a1 t.S.length k1, .slice a2 t.V.length k2, .slice a3 t.G.length k3, .slice a4 t.P.length k4, .int .i64 t.en] 27) = w1 at *
          have c6 := HX.out.cell (j := 6) rfl
          clear b1 b2 b3 z1 z2 z3 u1 u2 u3
          go_loopw [6, 5] (fun i n_ wr => ∃ (k : Nat) (n : Int), k ≤ t.G.length ∧ i = .int .i64 k ∧ n_ = .int .i64 n ∧ 0 ≤ n ∧ n ≤ lim ∧ fewG lim n (t.G.drop k) = fewG lim 0 t.G ∧ wr = w1) (fun i _ _ => t.G.length - (intOf i).toNat)
          case atStart => exact ⟨0, 0, Nat.zero_le _, rfl, rfl, by omega, by omega, rfl, rfl⟩
          case round =>
            obtain ⟨k, n, hk, rfl, rfl, hn1, hn2, hgo, rfl⟩ := hrel
            have HGO := Lib.hid hgo
            clear hgo
            by_cases hlt : k < t.G.length
            · have hm : k < p.M.length := by rw [HGL.out]; exact hlt
              have hsg := HT.out.g
              rw [HE3.out] at hsg
              obtain ⟨b, o, rfl, s0, s1, s2, s3⟩ := hsg.at hm
              have hMk : p.M[k].1 = t.G[k] := by
                have h1 : (p.M.map Prod.fst)[k]? = some p.M[k].1 := by rw [List.getElem?_map, List.getElem?_eq_getElem hm]; rfl
                rw [HT.out.m, List.getElem?_eq_getElem hlt] at h1
                exact (Option.some.inj h1).symm
              have HDR := Lib.hid (List.drop_eq_getElem_cons hlt)
              rw [hMk] at s3
              generalize t.G[k] = x at *
              obtain ⟨kd, wd, cl⟩ := x
              dsimp only at s3
              generalize p.M[k].2 = vx at *
              obtain ⟨xa, xc, rfl, hc1, hc2⟩ := s3.shape
              unfold maxLen at hc2
              have HFW := Lib.hid (ref_Few (.slice xa cl.length xc) cl lim wr s3)
              have hgo2 := HGO.out
              rw [HDR.out] at hgo2
              have hgo3 : (!decide (lim < n + (cl.length : Int)) && few cl lim && fewG lim (n + (cl.length : Int)) (t.G.drop (k + 1))) = fewG lim 0 t.G := hgo2
              clear s0 s1 s3 hsg hMk hm hgo2
              by_cases hcl : cl.length ≤ 140737488355328
              rotate_left
              · have hfw : few cl lim = false := by unfold few; rw [decide_eq_false (by omega), Bool.and_false]
                have HR := Lib.hid (show false = fewT t lim by rw [HFT.out, ← hgo3, hfw, Bool.and_false]; rfl)
                rw [hfw] at HFW
                clear hgo3 hfw hcl
                by_cases hq : lim < wrap64 (n + (cl.length : Int))
                · go_wp2_with fail
                  go_ret
                  exact ⟨ret_bool HR.out, HB1.out⟩
                · go_wp2_with fail
                  refine HFW.out.mono ?_
                  rintro e w2 ⟨rfl, rfl⟩
                  go_wp2_with fail
                  go_ret
                  exact ⟨ret_bool HR.out, HB1.out⟩
              by_cases h1 : lim < n + (cl.length : Int)
              · have HR := Lib.hid (show false = fewT t lim by rw [HFT.out, ← hgo3, decide_eq_true h1]; rfl)
                have bb : decide (lim < n + (cl.length : Int)) = true := by simpa using h1
                clear hgo3
                go_wp2_with fail
                go_ret
                exact ⟨ret_bool HR.out, HB1.out⟩
              · have bb : decide (lim < n + (cl.length : Int)) = false := by simpa using h1
                cases hfw : few cl lim with
                | false =>
                  have HR := Lib.hid (show false = fewT t lim by rw [HFT.out, ← hgo3, hfw, Bool.and_false]; rfl)
                  rw [hfw] at HFW
                  clear hgo3 hfw
                  go_wp2_with fail
                  refine HFW.out.mono ?_
                  rintro e w2 ⟨rfl, rfl⟩
                  go_wp2_with fail
                  go_ret
                  exact ⟨ret_bool HR.out, HB1.out⟩
                | true =>
                  have HG2 := Lib.hid (show fewG lim (n + (cl.length : Int)) (t.G.drop (k + 1)) = fewG lim 0 t.G by rw [← hgo3, hfw, bb]; rfl)
                  rw [hfw] at HFW
                  clear hgo3 hfw
                  go_wp2_with fail
                  refine HFW.out.mono ?_
                  rintro e w2 ⟨rfl, rfl⟩
                  go_wp2_with fail
                  go_roundw
                  case rel => exact ⟨k + 1, n + (cl.length : Int), hlt, by go_num, by go_num, by omega, by omega, HG2.out, by trivial⟩
                  case measure => simp [intOf]; omega
            · obtain rfl : k = t.G.length := by omega
              have HR := Lib.hid (show true = fewT t lim by rw [HFT.out, ← HGO.out, List.drop_length]; rfl)
              go_wp2_with fail
              go_ret
              exact ⟨ret_bool HR.out, HB1.out⟩
        · have b3 : (700 : Int) < ((bsB t.dt).size : Int) + (bsB t.vn).size + (bsB t.cm).size := by omega
          have HR := Lib.hid (show false = fewT t lim by unfold fewT; rw [h0, decide_eq_true h1, decide_eq_true h2, decide_eq_false h3]; rfl)
          clear ht e1 e2 e3 e4 hGL hb1 hfh h0 h1 h2 h3
          go_enter Tryz.func13, Tryz.ntmps13
          go_wp2_with fail
          refine (HFH.out).mono ?_
          rintro e w2 ⟨rfl, rfl⟩
          go_wp2_with fail
          go_ret
          exact ⟨ret_bool HR.out, HB1.out⟩
      · have b2 : (20 : Int) < (t.P.length : Int) := by omega
        have HR := Lib.hid (show false = fewT t lim by unfold fewT; rw [h0, decide_eq_true h1, decide_eq_false h2]; rfl)
        clear ht e1 e2 e3 e4 hGL hb1 hfh h0 h1 h2
        go_enter Tryz.func13, Tryz.ntmps13
        go_wp2_with fail
        refine (HFH.out).mono ?_
        rintro e w2 ⟨rfl, rfl⟩
        go_wp2_with fail
        go_ret
        exact ⟨ret_bool HR.out, HB1.out⟩
    · have b1 : (70 : Int) < (t.G.length : Int) := by omega
      have HR := Lib.hid (show false = fewT t lim by unfold fewT; rw [h0, decide_eq_false h1]; rfl)
      clear ht e1 e2 e3 e4 hGL hb1 hfh h0 h1
      go_enter Tryz.func13, Tryz.ntmps13
      go_wp2_with fail
      refine (HFH.out).mono ?_
      rintro e w2 ⟨rfl, rfl⟩
      go_wp2_with fail
      go_ret
      exact ⟨ret_bool HR.out, HB1.out⟩
  · have h00 : fewH t.S t.V = false := by simpa using h0
    rw [h00] at HFH
    have HR := Lib.hid (show false = fewT t lim by unfold fewT; rw [h00]; rfl)
    clear ht e1 e2 e3 e4 hGL hb1 hfh h0 h00
    go_enter Tryz.func13, Tryz.ntmps13
    go_wp2_with fail
    refine (HFH.out).mono ?_
    rintro e w2 ⟨rfl, rfl⟩
    go_wp2_with fail
    go_ret
    exact ⟨ret_bool HR.out, HB1.out⟩
end Go.Proofs.YtbiadennhnokhaaGreatDoor
/- Plain: what ref23.Few lets through is bounded. -/
namespace Go.Proofs.YtbiadennhnokhaaGreatDoor
set_option linter.unusedSimpArgs false

theorem fewG_all {lim : Int} : ∀ (G : List Sg) (n : Int), fewG lim n G = true → ∀ s ∈ G, few s.2.2 lim = true
  | [], _, _, s, hs => by cases hs
  | x :: G, n, h, s, hs => by
    unfold fewG at h
    rw [Bool.and_eq_true, Bool.and_eq_true] at h
    rcases List.mem_cons.1 hs with rfl | hs
    · exact h.1.2
    · exact fewG_all G _ h.2 s hs
theorem few_len {l : List Ch} {lim : Int} (hl : lim ≤ 1000) (h : few l lim = true) : Fit l ∧ l.length ≤ 1000 := by
  unfold few fewV at h
  rw [Bool.and_eq_true, List.all_eq_true, decide_eq_true_iff] at h
  refine ⟨⟨by omega, fun c hc => ?_⟩, by omega⟩
  have := of_decide_eq_true (h.1 c hc)
  omega
theorem fb_few {t : Tr} {lim : Int} (hl : lim ≤ 1000) (h : fewT t lim = true) : FB t ∧ t.G.length ≤ 70 := by
  unfold fewT fewH at h
  simp only [Bool.and_eq_true, List.all_eq_true, decide_eq_true_iff] at h
  obtain ⟨⟨⟨⟨hs, hv⟩, h1, h2⟩, ⟨h3, h4⟩, h5⟩, h6⟩ := h
  refine ⟨⟨⟨by omega, by omega, by omega⟩, ⟨by omega, by omega⟩, ⟨fun s hs' => by have := hs s hs'; omega, fun v hv' => by have := hv v hv'; omega⟩, fun s hs' => ?_, by omega⟩, h3⟩
  obtain ⟨f1, f2⟩ := few_len hl (fewG_all _ _ h6 s hs')
  exact ⟨f1, by omega⟩
end Go.Proofs.YtbiadennhnokhaaGreatDoor
