import Derived.Test.YtbiadennhnokhaaGreatDoorZ24
/- The stable sort of variables: symMerge, where one side is one element. -/
namespace Go.Proofs.YtbiadennhnokhaaGreatDoor
open Go.RowKit
set_option linter.unusedSimpArgs false

theorem mid_facts {i j h : Nat} (hi : i ≤ 1000000) (hj : j ≤ 1000000) (hh : (i + j) / 2 = h) : wrap64 ((i : Int) + (j : Int)) = (i : Int) + (j : Int) ∧ IntKind.u64.wrap ((i : Int) + (j : Int)) = (i : Int) + (j : Int) ∧ ((i : Int) + (j : Int)) / 2 = (h : Int) ∧ wrap64 (h : Int) = (h : Int) ∧ IntKind.i64.wrap ((h : Int) + 1) = (h : Int) + 1 :=
  ⟨IntWalk.wrap64_in _ (by omega), IntWalk.u64_in _ (by omega), by omega, IntWalk.wrap64_in _ (by omega), IntWalk.i64_in _ (by omega)⟩
set_option maxHeartbeats 3200000 in
set_option maxRecDepth 100000 in
theorem ss_sym1 (base g c a b : Nat) (l P B S : List Vr) (x : Vr) (w : World) (hg : SO base g l.length c w l) (hl : l = P ++ (x :: (B ++ S))) (hp : P.length = a) (hB : a + 1 + B.length = b) (hs : Srt vk B) (hn : l.length ≤ 1000) :
    Calls Tryz.prog 267 #[.slice (some ⟨g, 0, none⟩) l.length c, .int .i64 a, .int .i64 ((a : Int) + 1), .int .i64 b, (.func (.func 166) #[] #[])] w fun e w' =>
      e = .returned (.tuple #[]) ∧ SO base g l.length c w' (P ++ (mrg vk [x] B ++ S)) ∧ Below base w w' := by
  have H0 := Lib.hid (show SO base g l.length c w (P ++ (x :: (B ++ S))) by rw [← hl]; exact hg)
  have hlen : l.length = a + 1 + B.length + S.length := by rw [hl, ← hp]; simp only [List.length_append, List.length_cons]; omega
  have HL := Lib.hid (And.intro hp (And.intro hB (And.intro hlen hn)))
  have HSR := Lib.hid hs
  have hw0 : IntKind.i64.wrap ((a : Int) + 1 - (a : Int)) = 1 := by rw [IntWalk.i64_in _ (by omega)]; omega
  generalize l.length = n at *
  clear hg hl hp hB hs hlen hn
  go_enter Tryz.func267, Tryz.ntmps267
  go_wp2_with fail
  clear hw0
  go_loopw [10, 11] (fun vi vj wr => ∃ i j : Nat, vi = .int .i64 i ∧ vj = .int .i64 j ∧ a + 1 ≤ i ∧ i ≤ j ∧ j ≤ b ∧ (∀ t (h : t < B.length), t + (a + 1) < i → vk B[t] < vk x) ∧ (∀ t (h : t < B.length), j ≤ t + (a + 1) → vk x ≤ vk B[t]) ∧ SO base g n c wr (P ++ (x :: (B ++ S))) ∧ Below base w wr) (fun vi vj _ => (intOf vj).toNat - (intOf vi).toNat)
  case atStart =>
    have h9 := HL.out
    exact ⟨a + 1, b, by simp, rfl, Nat.le_refl _, by omega, Nat.le_refl _, fun t h h2 => by omega, fun t h h2 => by omega, H0.out, Below.refl _ _⟩
  case round =>
    obtain ⟨i, j, rfl, rfl, h1, h2, h3, hlt1, hge1, hs, hbw⟩ := hrel
    have HB := Lib.hid hbw
    have HS := Lib.hid hs
    have H1 := Lib.hid hlt1
    have H2 := Lib.hid hge1
    clear hbw hs hlt1 hge1
    by_cases hij : i < j
    · skip
      have hbn := HL.out.2.1
      have hnn := HL.out.2.2
      obtain ⟨h, hh⟩ : ∃ h, (i + j) / 2 = h := ⟨_, rfl⟩
      have MID := Lib.hid (mid_facts (i := i) (j := j) (h := h) (by omega) (by omega) hh)
      have hhi : i ≤ h ∧ h < j := by omega
      have hlt : h - (a + 1) < B.length := by omega
      have hsB : B = B.take (h - (a + 1)) ++ B[h - (a + 1)] :: B.drop (h - (a + 1) + 1) := by rw [← List.drop_eq_getElem_cons hlt, List.take_append_drop]
      have HCM := Lib.hid (fun (hc : vk B[h - (a + 1)] < vk x) t (ht : t < B.length) (h2 : t + (a + 1) < h + 1) => (show vk B[t] < vk x from Int.lt_of_le_of_lt (srt_le HSR.out (show t ≤ h - (a + 1) by omega) hlt) hc))
      have HCN := Lib.hid (fun (hc : ¬ vk B[h - (a + 1)] < vk x) t (ht : t < B.length) (h2 : h ≤ t + (a + 1)) => (show vk x ≤ vk B[t] from Int.le_trans (Int.not_lt.1 hc) (srt_le HSR.out (show h - (a + 1) ≤ t by omega) ht)))
      have e1 : P ++ (x :: (B ++ S)) = (P ++ (x :: B.take (h - (a + 1)))) ++ B[h - (a + 1)] :: (B.drop (h - (a + 1) + 1) ++ S) := by
        conv => lhs; rw [hsB]
        simp only [List.append_assoc, List.cons_append]
      have hz := (HS.out).at
      rw [HL.out.1] at hz
      have hz2 := (show SO base g n c wr ((P ++ (x :: B.take (h - (a + 1)))) ++ B[h - (a + 1)] :: (B.drop (h - (a + 1) + 1) ++ S)) from e1 ▸ HS.out).at
      rw [show (P ++ (x :: B.take (h - (a + 1)))).length = h by rw [List.length_append, List.length_cons, List.length_take, HL.out.1]; omega] at hz2
      have n1 : (0 : Int) ≤ (h : Int) := by omega
      have n2 : (h : Int) < (n : Int) := by omega
      have n3 : (0 : Int) ≤ (a : Int) := by omega
      have n4 : (a : Int) < (n : Int) := by omega
      have HLO := Lib.hid (show base ≤ wr.drew.heap.size from Nat.le_of_lt (Nat.lt_of_le_of_lt HS.out.lo.1 HS.out.lo.2))
      have HN := Lib.hid (show a + 1 ≤ i ∧ i ≤ h ∧ h < j ∧ j ≤ b from ⟨h1, hhi.1, hhi.2, h3⟩)
      generalize B[h - (a + 1)] = z at hz2 HCM HCN
      obtain ⟨x0, x1, x2, x3, x4, x5, x6⟩ := hz
      obtain ⟨z0, z1, z2, z3, z4, z5, z6⟩ := hz2
      clear hbn hnn hsB e1 hlt hhi hh h1 h2 h3
      by_cases hc : vk z < vk x
      · have HC := Lib.hid (show decide (vk z < vk x) = true from decide_eq_true hc)
        have HM := Lib.hid (HCM.out hc)
        obtain ⟨m1, m2, m3, m4, m5⟩ := MID.out
        clear hc
        go_wp2_with fail
        clear m1 m2 m3 m4
        go_region_held3 (fun w' => w'.cell? ⟨g, h * 7, none⟩ = some (.string (bsB z.nm)) ∧ w'.cell? ⟨g, h * 7 + 1, none⟩ = some (.int .i64 z.ty) ∧ w'.cell? ⟨g, h * 7 + 2, none⟩ = some (.int .i64 z.sc) ∧ w'.cell? ⟨g, h * 7 + 3, none⟩ = some (.int .i64 z.sg) ∧ w'.cell? ⟨g, h * 7 + 4, none⟩ = some (.bool z.rg) ∧ w'.cell? ⟨g, h * 7 + 5, none⟩ = some (.int .i64 z.mb) ∧ w'.cell? ⟨g, h * 7 + 6, none⟩ = some (.int .i64 z.lb) ∧ w'.cell? ⟨g, a * 7, none⟩ = some (.string (bsB x.nm)) ∧ w'.cell? ⟨g, a * 7 + 1, none⟩ = some (.int .i64 x.ty) ∧ w'.cell? ⟨g, a * 7 + 2, none⟩ = some (.int .i64 x.sc) ∧ w'.cell? ⟨g, a * 7 + 3, none⟩ = some (.int .i64 x.sg) ∧ w'.cell? ⟨g, a * 7 + 4, none⟩ = some (.bool x.rg) ∧ w'.cell? ⟨g, a * 7 + 5, none⟩ = some (.int .i64 x.mb) ∧ w'.cell? ⟨g, a * 7 + 6, none⟩ = some (.int .i64 x.lb))
          (first | exact ⟨z0, z1, z2, z3, z4, z5, z6, x0, x1, x2, x3, x4, x5, x6⟩ | exact ⟨u0, u1, u2, u3, u4, u5, u6, v0, v1, v2, v3, v4, v5, v6⟩ | go_keep)
          (first
            | (go_at_call 166; refine (ss_cmp z x _).mono ?_; rintro e w2 ⟨r, rfl, hz, hb2⟩; rw [HC.out] at hz; have hs2 := SO.after HS.out.drew hb2; have HS2 := Lib.hid hs2; have HB2 := Lib.hid (HB.out.drew.trans (hb2.mono HLO.out)); have hlt9 := hs2.lo.2; obtain ⟨v0, v1, v2, v3, v4, v5, v6⟩ := (⟨(hb2.cell (p := ⟨g, a * 7, none⟩) (cell_lt (show wr.drew.cell? _ = some _ from x0))).trans x0, (hb2.cell (p := ⟨g, a * 7 + 1, none⟩) (cell_lt (show wr.drew.cell? _ = some _ from x1))).trans x1, (hb2.cell (p := ⟨g, a * 7 + 2, none⟩) (cell_lt (show wr.drew.cell? _ = some _ from x2))).trans x2, (hb2.cell (p := ⟨g, a * 7 + 3, none⟩) (cell_lt (show wr.drew.cell? _ = some _ from x3))).trans x3, (hb2.cell (p := ⟨g, a * 7 + 4, none⟩) (cell_lt (show wr.drew.cell? _ = some _ from x4))).trans x4, (hb2.cell (p := ⟨g, a * 7 + 5, none⟩) (cell_lt (show wr.drew.cell? _ = some _ from x5))).trans x5, (hb2.cell (p := ⟨g, a * 7 + 6, none⟩) (cell_lt (show wr.drew.cell? _ = some _ from x6))).trans x6⟩ : _ ∧ _ ∧ _ ∧ _ ∧ _ ∧ _ ∧ _); obtain ⟨u0, u1, u2, u3, u4, u5, u6⟩ := (⟨(hb2.cell (p := ⟨g, h * 7, none⟩) (cell_lt (show wr.drew.cell? _ = some _ from z0))).trans z0, (hb2.cell (p := ⟨g, h * 7 + 1, none⟩) (cell_lt (show wr.drew.cell? _ = some _ from z1))).trans z1, (hb2.cell (p := ⟨g, h * 7 + 2, none⟩) (cell_lt (show wr.drew.cell? _ = some _ from z2))).trans z2, (hb2.cell (p := ⟨g, h * 7 + 3, none⟩) (cell_lt (show wr.drew.cell? _ = some _ from z3))).trans z3, (hb2.cell (p := ⟨g, h * 7 + 4, none⟩) (cell_lt (show wr.drew.cell? _ = some _ from z4))).trans z4, (hb2.cell (p := ⟨g, h * 7 + 5, none⟩) (cell_lt (show wr.drew.cell? _ = some _ from z5))).trans z5, (hb2.cell (p := ⟨g, h * 7 + 6, none⟩) (cell_lt (show wr.drew.cell? _ = some _ from z6))).trans z6⟩ : _ ∧ _ ∧ _ ∧ _ ∧ _ ∧ _ ∧ _); clear hb2 hs2 hlt9)
            | fail "no arm")
        go_wp2_with fail
        clear m5
        go_roundw
        case rel =>
          have h9 := HN.out
          exact ⟨h + 1, j, by simp, rfl, by omega, by omega, by omega, HM.out, H2.out, HS2.out, HB2.out⟩
        case measure =>
          have h9 := HN.out
          simp [intOf]; omega
      · have HC := Lib.hid (show decide (vk z < vk x) = false from decide_eq_false hc)
        have HM := Lib.hid (HCN.out hc)
        obtain ⟨m1, m2, m3, m4, m5⟩ := MID.out
        clear hc
        go_wp2_with fail
        clear m1 m2 m3 m4
        go_region_held3 (fun w' => w'.cell? ⟨g, h * 7, none⟩ = some (.string (bsB z.nm)) ∧ w'.cell? ⟨g, h * 7 + 1, none⟩ = some (.int .i64 z.ty) ∧ w'.cell? ⟨g, h * 7 + 2, none⟩ = some (.int .i64 z.sc) ∧ w'.cell? ⟨g, h * 7 + 3, none⟩ = some (.int .i64 z.sg) ∧ w'.cell? ⟨g, h * 7 + 4, none⟩ = some (.bool z.rg) ∧ w'.cell? ⟨g, h * 7 + 5, none⟩ = some (.int .i64 z.mb) ∧ w'.cell? ⟨g, h * 7 + 6, none⟩ = some (.int .i64 z.lb) ∧ w'.cell? ⟨g, a * 7, none⟩ = some (.string (bsB x.nm)) ∧ w'.cell? ⟨g, a * 7 + 1, none⟩ = some (.int .i64 x.ty) ∧ w'.cell? ⟨g, a * 7 + 2, none⟩ = some (.int .i64 x.sc) ∧ w'.cell? ⟨g, a * 7 + 3, none⟩ = some (.int .i64 x.sg) ∧ w'.cell? ⟨g, a * 7 + 4, none⟩ = some (.bool x.rg) ∧ w'.cell? ⟨g, a * 7 + 5, none⟩ = some (.int .i64 x.mb) ∧ w'.cell? ⟨g, a * 7 + 6, none⟩ = some (.int .i64 x.lb))
          (first | exact ⟨z0, z1, z2, z3, z4, z5, z6, x0, x1, x2, x3, x4, x5, x6⟩ | exact ⟨u0, u1, u2, u3, u4, u5, u6, v0, v1, v2, v3, v4, v5, v6⟩ | go_keep)
          (first
            | (go_at_call 166; refine (ss_cmp z x _).mono ?_; rintro e w2 ⟨r, rfl, hz, hb2⟩; rw [HC.out] at hz; have hs2 := SO.after HS.out.drew hb2; have HS2 := Lib.hid hs2; have HB2 := Lib.hid (HB.out.drew.trans (hb2.mono HLO.out)); have hlt9 := hs2.lo.2; obtain ⟨v0, v1, v2, v3, v4, v5, v6⟩ := (⟨(hb2.cell (p := ⟨g, a * 7, none⟩) (cell_lt (show wr.drew.cell? _ = some _ from x0))).trans x0, (hb2.cell (p := ⟨g, a * 7 + 1, none⟩) (cell_lt (show wr.drew.cell? _ = some _ from x1))).trans x1, (hb2.cell (p := ⟨g, a * 7 + 2, none⟩) (cell_lt (show wr.drew.cell? _ = some _ from x2))).trans x2, (hb2.cell (p := ⟨g, a * 7 + 3, none⟩) (cell_lt (show wr.drew.cell? _ = some _ from x3))).trans x3, (hb2.cell (p := ⟨g, a * 7 + 4, none⟩) (cell_lt (show wr.drew.cell? _ = some _ from x4))).trans x4, (hb2.cell (p := ⟨g, a * 7 + 5, none⟩) (cell_lt (show wr.drew.cell? _ = some _ from x5))).trans x5, (hb2.cell (p := ⟨g, a * 7 + 6, none⟩) (cell_lt (show wr.drew.cell? _ = some _ from x6))).trans x6⟩ : _ ∧ _ ∧ _ ∧ _ ∧ _ ∧ _ ∧ _); obtain ⟨u0, u1, u2, u3, u4, u5, u6⟩ := (⟨(hb2.cell (p := ⟨g, h * 7, none⟩) (cell_lt (show wr.drew.cell? _ = some _ from z0))).trans z0, (hb2.cell (p := ⟨g, h * 7 + 1, none⟩) (cell_lt (show wr.drew.cell? _ = some _ from z1))).trans z1, (hb2.cell (p := ⟨g, h * 7 + 2, none⟩) (cell_lt (show wr.drew.cell? _ = some _ from z2))).trans z2, (hb2.cell (p := ⟨g, h * 7 + 3, none⟩) (cell_lt (show wr.drew.cell? _ = some _ from z3))).trans z3, (hb2.cell (p := ⟨g, h * 7 + 4, none⟩) (cell_lt (show wr.drew.cell? _ = some _ from z4))).trans z4, (hb2.cell (p := ⟨g, h * 7 + 5, none⟩) (cell_lt (show wr.drew.cell? _ = some _ from z5))).trans z5, (hb2.cell (p := ⟨g, h * 7 + 6, none⟩) (cell_lt (show wr.drew.cell? _ = some _ from z6))).trans z6⟩ : _ ∧ _ ∧ _ ∧ _ ∧ _ ∧ _ ∧ _); clear hb2 hs2 hlt9)
            | fail "no arm")
        go_wp2_with fail
        clear m5
        go_roundw
        case rel =>
          have h9 := HN.out
          exact ⟨i, h, rfl, rfl, by omega, by omega, by omega, H1.out, HM.out, HS2.out, HB2.out⟩
        case measure =>
          have h9 := HN.out
          simp [intOf]; omega
    · obtain rfl : i = j := by omega
      obtain ⟨d, hd⟩ : ∃ d, i = a + 1 + d := ⟨i - (a + 1), by omega⟩
      have hdB : d ≤ B.length := by have := HL.out.2.1; omega
      have HF := Lib.hid (show mrg vk [x] B = B.take d ++ x :: B.drop d by
        conv => lhs; rw [← List.take_append_drop d B]
        refine mrg_one_left (fun y hy => ?_) (fun y hy => ?_)
        · obtain ⟨t, ht, rfl⟩ := List.mem_iff_getElem.1 hy
          rw [List.length_take] at ht
          rw [List.getElem_take]
          exact H1.out t (by omega) (by omega)
        · obtain ⟨t, ht, rfl⟩ := List.mem_iff_getElem.1 hy
          rw [List.length_drop] at ht
          rw [List.getElem_drop]
          exact H2.out (d + t) (by omega) (by omega))
      have hwd : IntKind.i64.wrap ((i : Int) - 1) = (a : Int) + (d : Int) := by
        have := HL.out
        rw [IntWalk.i64_in _ (by omega)]
        omega
      have HD := Lib.hid (And.intro hdB hd)
      clear h1 h2 h3 hij
      go_wp2_with fail
      clear hd hdB
      go_loopw [13] (fun vk2 wj => ∃ k t : Nat, vk2 = .int .i64 (k : Int) ∧ k = a + t ∧ t ≤ d ∧ SO base g n c wj (P ++ (B.take t ++ x :: (B.drop t ++ S))) ∧ Below base w wj) (fun vk2 _ => a + d - (intOf vk2).toNat)
      case atStart => exact ⟨a, 0, by simp, rfl, Nat.zero_le _, by simpa using HS.out, HB.out⟩
      case round =>
        obtain ⟨k, t, rfl, hk, htd, hs, hbj⟩ := hrel
        have HBJ := Lib.hid hbj
        clear hbj
        by_cases hlt : t < d
        · have hd1 : decide ((k : Int) < (a : Int) + (d : Int)) = true := by rw [decide_eq_true_iff]; omega
          have htB : t < B.length := by have := HD.out.1; omega
          have hL := HL.out
          rw [List.drop_eq_getElem_cons htB] at hs
          have HN := Lib.hid (show B.take (t + 1) = B.take t ++ [B[t]] from List.take_succ_eq_append_getElem htB)
          generalize B[t] = y at hs HN
          rw [show P ++ (B.take t ++ x :: ((y :: B.drop (t + 1)) ++ S)) = (P ++ B.take t) ++ x :: ([] ++ y :: (B.drop (t + 1) ++ S)) by simp] at hs
          have hPA : (P ++ B.take t).length = k := by rw [List.length_append, List.length_take]; omega
          have hz := hs.at
          have hs' := hs
          rw [show (P ++ B.take t) ++ x :: ([] ++ y :: (B.drop (t + 1) ++ S)) = (P ++ (B.take t ++ [x])) ++ y :: (B.drop (t + 1) ++ S) by simp] at hs'
          have hz' := hs'.at
          rw [show (P ++ (B.take t ++ [x])).length = k + 1 by simp only [List.length_append, List.length_singleton] at hPA ⊢; omega] at hz'
          rw [hPA] at hz
          obtain ⟨x0, x1, x2, x3, x4, x5, x6⟩ := hz
          obtain ⟨y0, y1, y2, y3, y4, y5, y6⟩ := hz'
          have HSW := Lib.hid (hs.swap (p := k) (q := k + 1) hPA (by rw [hPA]; rfl))
          have hfz := own_frozen hs
          have n1 : (0 : Int) ≤ (k : Int) := by omega
          have n2 : (k : Int) < (n : Int) := by omega
          have n3 : (0 : Int) ≤ (k : Int) + 1 := by omega
          have n4 : (k : Int) + 1 < (n : Int) := by omega
          have n5 : ((k : Int) + 1).toNat = k + 1 := by omega
          have hab : ¬ k + 1 = k := by omega
          have hba : ¬ k = k + 1 := by omega
          have HK := Lib.hid (And.intro hk (And.intro htd hlt))
          have m1 : IntKind.i64.wrap ((k : Int) + 1) = (k : Int) + 1 := IntWalk.i64_in _ (by omega)
          clear hs hs' hPA hL htB hk htd hlt
          go_upto_region 11 with fail
          go_region
          clear x0 x1 x2 x3 x4 x5 x6 y0 y1 y2 y3 y4 y5 y6 hfz hab hba n1 n2 n3 n4 n5
          go_wp2_with fail
          clear m1
          go_roundw
          case rel =>
            have h9 := HK.out
            refine ⟨k + 1, t + 1, by simp, by omega, by omega, ?_, (HBJ.out.trans HSW.out.2).drew⟩
            have h8 := HSW.out.1.drew
            rw [show (P ++ B.take t) ++ y :: ([] ++ x :: (B.drop (t + 1) ++ S)) = P ++ ((B.take t ++ [y]) ++ x :: (B.drop (t + 1) ++ S)) by simp, ← HN.out] at h8
            exact h8
          case measure =>
            have h9 := HK.out
            simp [intOf]; omega
        · have hd1 : decide ((k : Int) < (a : Int) + (d : Int)) = false := by rw [decide_eq_false_iff_not]; omega
          obtain rfl : t = d := by omega
          have HFF := Lib.hid (show SO base g n c wr (P ++ (mrg vk [x] B ++ S)) by rw [HF.out]; simpa using hs)
          clear hs
          go_wp2_with fail
          refine bodyPost_ret (v := .tuple #[]) (by simp [results, Tryz.results267, go_sem]) rfl ?_
          exact ⟨rfl, HFF.out, HBJ.out⟩
end Go.Proofs.YtbiadennhnokhaaGreatDoor
