import Derived.Test.YtimeilkelnljnaaGreatDoorRd2
namespace Go.Proofs.YtimeilkelnljnaaGreatDoor
open Go.RowKit

/-- what the reference's first returns -/
def FirstPost (r : Option (Nat × Bool)) (w : World) (e : Ending) (w' : World) : Prop :=
  e = .returned (.tuple #[.agg #[.int .i64 0, .int .i64 ((r.getD (0, false)).1 : Int), .bool (r.getD (0, false)).2], .bool r.isSome]) ∧ Below w.heap.size w w'
theorem rHit_iff {x st : Sg} {inv : Bool} {f : Nat} : rHit x st inv f = (possR (0, (f : Int), inv) x st && decide ((derG (0, (f : Int), inv) x st).2.2 = x.2.2)) := rfl
theorem first_at0 {x st : Sg} {f : Nat} (hb : ∀ g, g < f → rHit x st false g = false) (hit : rHit x st false f = true) (hf : (f : Int) ≤ max 0 (st.2.1 - x.2.1)) : firstR x st = some (f, false) := by
  unfold firstR
  rw [List.find?_range_eq_some.2 ⟨hit, List.mem_range.2 (by omega), fun j hj => by rw [hb j hj]; rfl⟩]
theorem first_at1 {x st : Sg} {f : Nat} (h0 : (List.range (max 0 (st.2.1 - x.2.1) + 1).toNat).find? (rHit x st false) = none) (hb : ∀ g, g < f → rHit x st true g = false) (hit : rHit x st true f = true) (hf : (f : Int) ≤ max 0 (st.2.1 - x.2.1)) : firstR x st = some (f, true) := by
  unfold firstR
  rw [h0, List.find?_range_eq_some.2 ⟨hit, List.mem_range.2 (by omega), fun j hj => by rw [hb j hj]; rfl⟩]
  rfl
theorem first_end {x st : Sg} {inv : Bool} {f : Nat} (hb : ∀ g, g < f → rHit x st inv g = false) (hf : max 0 (st.2.1 - x.2.1) < (f : Int)) : (List.range (max 0 (st.2.1 - x.2.1) + 1).toNat).find? (rHit x st inv) = none := by
  rw [List.find?_eq_none]
  intro g hg
  rw [List.mem_range] at hg
  rw [hb g (by omega)]
  simp
theorem first_none {x st : Sg} (h0 : (List.range (max 0 (st.2.1 - x.2.1) + 1).toNat).find? (rHit x st false) = none) (h1 : (List.range (max 0 (st.2.1 - x.2.1) + 1).toNat).find? (rHit x st true) = none) : firstR x st = none := by
  unfold firstR
  rw [h0, h1]
  rfl
set_option linter.unusedSimpArgs false in
set_option maxHeartbeats 8000000 in
set_option maxRecDepth 100000 in
theorem ref_first (x st : Sg) (u v : Value) (w : World) (hu : SlR w u x.2.2.length (chs x.2.2)) (hv : SlR w v st.2.2.length (chs st.2.2)) (hf : Fit st.2.2) (hx : 0 ≤ x.2.1 ∧ x.2.1 ≤ 128) (hst : 0 ≤ st.2.1 ∧ st.2.1 ≤ 128) :
    Calls Tryz.prog 42 #[.agg #[.int .i64 x.1, .int .i64 x.2.1, u], .agg #[.int .i64 st.1, .int .i64 st.2.1, v]] w (FirstPost (firstR x st) w) := by
  obtain ⟨k, n, xl⟩ := x
  obtain ⟨k2, n2, l⟩ := st
  dsimp only at hu hv hf hx hst ⊢
  obtain ⟨ua, uc, rfl, -, -⟩ := hu.shape
  obtain ⟨va, vc, rfl, -, -⟩ := hv.shape
  have h1 := OwnRow.fresh w #[.int .i64 k, .int .i64 n, .slice ua xl.length uc] 37
  have hb1 := (Below.refl w.heap.size w).alloc (Nat.le_refl _) (.cells #[.int .i64 k, .int .i64 n, .slice ua xl.length uc] 37)
  have hz1 : (w.alloc (.cells #[.int .i64 k, .int .i64 n, .slice ua xl.length uc] 37)).heap.size = w.heap.size + 1 := by simp
  generalize hW1 : w.alloc (.cells #[.int .i64 k, .int .i64 n, .slice ua xl.length uc] 37) = w1 at h1 hb1 hz1
  have h2 := OwnRow.fresh w1 #[.int .i64 k2, .int .i64 n2, .slice va l.length vc] 37
  rw [hz1] at h2
  have h1 := h1.alloc (by omega) (.cells #[.int .i64 k2, .int .i64 n2, .slice va l.length vc] 37)
  have hb2 := hb1.alloc hb1.size (.cells #[.int .i64 k2, .int .i64 n2, .slice va l.length vc] 37)
  have hz2 : (w1.alloc (.cells #[.int .i64 k2, .int .i64 n2, .slice va l.length vc] 37)).heap.size = w.heap.size + 1 + 1 := by simp [hz1]
  generalize hW2 : w1.alloc (.cells #[.int .i64 k2, .int .i64 n2, .slice va l.length vc] 37) = w2 at h1 h2 hb2 hz2
  have h3 := OwnRow.fresh w2 #[.int .i64 0, .int .i64 0, .bool false] 34
  rw [hz2] at h3
  have h1 := h1.alloc (by omega) (.cells #[.int .i64 0, .int .i64 0, .bool false] 34)
  have h2 := h2.alloc (by omega) (.cells #[.int .i64 0, .int .i64 0, .bool false] 34)
  have hb3 := hb2.alloc hb2.size (.cells #[.int .i64 0, .int .i64 0, .bool false] 34)
  have hz3 : (w2.alloc (.cells #[.int .i64 0, .int .i64 0, .bool false] 34)).heap.size = w.heap.size + 1 + 1 + 1 := by simp [hz2]
  generalize hW3 : w2.alloc (.cells #[.int .i64 0, .int .i64 0, .bool false] 34) = w3 at h1 h2 h3 hb3 hz3
  have H1 := Lib.hid h1
  have H2 := Lib.hid h2
  have H3 := Lib.hid h3
  have HB3 := Lib.hid hb3
  have HU := Lib.hid (hu.below hb3)
  have HV := Lib.hid (hv.below hb3)
  have HF := Lib.hid hf
  have hw1 : IntKind.i64.wrap (n2 - n) = n2 - n := IntWalk.i64_in _ (by omega)
  clear h1 h2 h3 hb1 hb2 hb3 hu hv hf
  go_enter Tryz.func42, Tryz.ntmps42
  go_upto_region 1 with fail
  clear hW1 hW2 hW3
  clear hz1 hz2
  have hzz : w.heap.size + 1 + 1 < w3.heap.size := by omega
  clear hz3
  go_wp2_with fail
  go_loopw [6] (fun i wr => ∃ (q : Nat), q ≤ 2 ∧ i = .int .i64 q ∧ (1 ≤ q → (List.range (max 0 (n2 - n) + 1).toNat).find? (rHit (k, n, xl) (k2, n2, l) false) = none) ∧ (2 ≤ q → (List.range (max 0 (n2 - n) + 1).toNat).find? (rHit (k, n, xl) (k2, n2, l) true) = none) ∧ Below w3.heap.size w3 wr) (fun i _ => 2 - (intOf i).toNat)
  case atStart => exact ⟨0, by omega, rfl, by omega, by omega, Below.refl _ _⟩
  case round =>
    obtain ⟨q, hq, rfl, hn0, hn1, hb⟩ := hrel
    have HN0 := Lib.hid hn0
    have HN1 := Lib.hid hn1
    have HB := Lib.hid hb
    clear hn0 hn1 hb
    obtain ⟨wa, rfl⟩ : ∃ wa : World, wa = wr := ⟨_, rfl⟩
    by_cases hq2 : q < 2
    · obtain ⟨inv, hinv⟩ : ∃ inv : Bool, inv = decide (q = 1) := ⟨_, rfl⟩
      have hqi : ((q : Int) == 1) = inv := by
        rw [hinv]
        rcases (show q = 0 ∨ q = 1 by omega) with rfl | rfl <;> rfl
      have HIQ := Lib.hid hinv
      have hqd : decide ((q : Int) < 2) = true := by rw [decide_eq_true_iff]; omega
      clear hinv
      go_wp2_with fail
      clear hqd
      go_loopw [7] (fun i wr => ∃ (f : Nat), (f : Int) ≤ max 0 (n2 - n) + 1 ∧ i = .int .i64 f ∧ (∀ g, g < f → rHit (k, n, xl) (k2, n2, l) inv g = false) ∧ Below w3.heap.size w3 wr) (fun i _ => (max 0 (n2 - n) + 1).toNat - (intOf i).toNat)
      case atStart => exact ⟨0, by omega, rfl, by omega, HB.out⟩
      case round =>
        obtain ⟨f, hfm, rfl, hfg, hbf⟩ := hrel
        have HFG := Lib.hid hfg
        have HBF := Lib.hid hbf
        clear hfg hbf
        have a0 := (H1.out.below HBF.out (by omega)).cell (j := 0) rfl
        have a1 := (H1.out.below HBF.out (by omega)).cell (j := 1) rfl
        have a2 := (H1.out.below HBF.out (by omega)).cell (j := 2) rfl
        have b0 := (H2.out.below HBF.out (by omega)).cell (j := 0) rfl
        have b1 := (H2.out.below HBF.out (by omega)).cell (j := 1) rfl
        have b2 := (H2.out.below HBF.out (by omega)).cell (j := 2) rfl
        by_cases hfl : (f : Int) ≤ max 0 (n2 - n)
        · have hfd : decide ((f : Int) ≤ max 0 (n2 - n)) = true := by rw [decide_eq_true_iff]; exact hfl
          have hda := OwnRow.fresh wr #[.int .i64 0, .int .i64 (f : Int), .bool inv] 34
          have hbb := HBF.out.alloc HBF.out.size (.cells #[.int .i64 0, .int .i64 (f : Int), .bool inv] 34)
          have hzd : wr.heap.size < (wr.alloc (.cells #[.int .i64 0, .int .i64 (f : Int), .bool inv] 34)).heap.size := by simp
          go_upto_region 8 with fail
          generalize wr.alloc (.cells #[.int .i64 0, .int .i64 (f : Int), .bool inv] 34) = wb at hda hbb hzd ⊢
          clear a0 a1 a2 b0 b1 b2
          have HBB := Lib.hid hbb
          have hsz0 := hbb.size
          have HA := Lib.hid (H1.out.below hbb (by omega))
          have HC := Lib.hid (H2.out.below hbb (by omega))
          have HDA := Lib.hid hda
          generalize wr.heap.size = Bd at hda hzd HDA ⊢
          have HPS := Lib.hid (fun W (hW : Below wb.heap.size wb W) => ref_possible (0, (f : Int), inv) (k, n, xl) (k2, n2, l) (.slice ua xl.length uc) (.slice va l.length vc) W ⟨_, _, _, rfl⟩ ⟨_, _, _, rfl⟩ hx hst)
          have HDR := Lib.hid (fun W (hW : Below wb.heap.size wb W) => ref_derive29 (0, (f : Int), inv) (k, n, xl) (k2, n2, l) (.slice ua xl.length uc) (.slice va l.length vc) W ⟨_, _, _, rfl⟩ (HV.out.below (HBB.out.trans (hW.mono hsz0))) HF.out)
          have HHI := Lib.hid (rHit_iff (x := (k, n, xl)) (st := (k2, n2, l)) (inv := inv) (f := f))
          have c0 := HA.out.cell (j := 0) rfl
          have c1 := HA.out.cell (j := 1) rfl
          have c2 := HA.out.cell (j := 2) rfl
          have c3 := HC.out.cell (j := 0) rfl
          have c4 := HC.out.cell (j := 1) rfl
          have c5 := HC.out.cell (j := 2) rfl
          have c6 := hda.cell (j := 0) rfl
          have c7 := hda.cell (j := 1) rfl
          have c8 := hda.cell (j := 2) rfl
          have HCS := Lib.hid (And.intro c0 (And.intro c1 (And.intro c2 (And.intro c3 (And.intro c4 (And.intro c5 (And.intro c6 (And.intro c7 c8))))))))
          generalize (derG (0, (f : Int), inv) (k, n, xl) (k2, n2, l)).2.2 = dl at HDR HHI
          have hza : w.heap.size < wb.heap.size := by omega
          have hzb : w.heap.size + 1 < wb.heap.size := by omega
          clear hda hbb
          cases hp : possR (0, (f : Int), inv) (k, n, xl) (k2, n2, l)
          · rw [hp] at HPS HHI
            have HMI := Lib.hid (show rHit (k, n, xl) (k2, n2, l) inv f = false from HHI.out)
            clear hp
            refine wp_region_held_drew (S := (fun w' => w'.cell? ⟨w.heap.size, 0, none⟩ = some (.int .i64 k) ∧ w'.cell? ⟨w.heap.size, 1, none⟩ = some (.int .i64 n) ∧ w'.cell? ⟨w.heap.size, 2, none⟩ = some (.slice ua xl.length uc) ∧ w'.cell? ⟨w.heap.size + 1, 0, none⟩ = some (.int .i64 k2) ∧ w'.cell? ⟨w.heap.size + 1, 1, none⟩ = some (.int .i64 n2) ∧ w'.cell? ⟨w.heap.size + 1, 2, none⟩ = some (.slice va l.length vc) ∧ w'.cell? ⟨Bd, 0, none⟩ = some (.int .i64 0) ∧ w'.cell? ⟨Bd, 1, none⟩ = some (.int .i64 (f : Int)) ∧ w'.cell? ⟨Bd, 2, none⟩ = some (.bool inv))) (by kernel_rfl) ⟨c0, c1, c2, c3, c4, c5, c6, c7, c8⟩ (fun hHeld => ?_)
            refine wpAnyH_take (i := 0) (v := .agg #[.int .i64 0, .int .i64 (f : Int), .bool inv]) rfl (by kernel_rfl) (by kernel_rfl) (by kernel_rfl) (fun _ _ _ h => h) (Or.inl ⟨by rfl, ?_⟩) hHeld ?_
            · intro w hSw
              obtain ⟨q0, q1, q2, q3, q4, q5, q6, q7, q8⟩ := hSw
              go_simp
            simp only [Act.put, List.setIfInBounds_toArray, List.set_cons_zero, List.set_cons_succ]
            refine wpAnyH_take (i := 1) (v := .agg #[.int .i64 k, .int .i64 n, .slice ua xl.length uc]) rfl (by kernel_rfl) (by kernel_rfl) (by kernel_rfl) (fun _ _ _ h => h) (Or.inl ⟨by rfl, ?_⟩) hHeld ?_
            · intro w hSw
              obtain ⟨q0, q1, q2, q3, q4, q5, q6, q7, q8⟩ := hSw
              go_simp
            simp only [Act.put, List.setIfInBounds_toArray, List.set_cons_zero, List.set_cons_succ]
            refine wpAnyH_take (i := 2) (v := .agg #[.int .i64 k2, .int .i64 n2, .slice va l.length vc]) rfl (by kernel_rfl) (by kernel_rfl) (by kernel_rfl) (fun _ _ _ h => h) (Or.inl ⟨by rfl, ?_⟩) hHeld ?_
            · intro w hSw
              obtain ⟨q0, q1, q2, q3, q4, q5, q6, q7, q8⟩ := hSw
              go_simp
            simp only [Act.put, List.setIfInBounds_toArray, List.set_cons_zero, List.set_cons_succ]
            refine wpAnyH_ready (rs := [3]) (by kernel_rfl) (by simp) ?_
            refine AllReadyH.cons (o := _) rfl (fun K hK => ?_) AllReadyH.nil
            go_simp
            refine (HPS.out _ (below_drewN (Below.refl _ _) _)).mono ?_
            rintro e w8 ⟨rfl, hb8'⟩
            have hb9 := below_undrew hb8'
            have HB9 := Lib.hid hb9
            have v0 := (hb9).cell hza |>.trans HCS.out.1
            have v1 := (hb9).cell hza |>.trans HCS.out.2.1
            have v2 := (hb9).cell hza |>.trans HCS.out.2.2.1
            have v3 := (hb9).cell hzb |>.trans HCS.out.2.2.2.1
            have v4 := (hb9).cell hzb |>.trans HCS.out.2.2.2.2.1
            have v5 := (hb9).cell hzb |>.trans HCS.out.2.2.2.2.2.1
            have v6 := (hb9).cell hzd |>.trans HCS.out.2.2.2.2.2.2.1
            have v7 := (hb9).cell hzd |>.trans HCS.out.2.2.2.2.2.2.2.1
            have v8 := (hb9).cell hzd |>.trans HCS.out.2.2.2.2.2.2.2.2
            clear hb8' hb9 hHeld
            go_wp2_with fail
            refine hK.out _ _ ⟨v0, v1, v2, v3, v4, v5, v6, v7, v8⟩ (fun hHeld => ?_)
            clear hK
            try simp only [Act.put, List.setIfInBounds_toArray, List.set_cons_zero, List.set_cons_succ]
            refine wpAnyH_take (i := 4) (v := .bool false) rfl (by kernel_rfl) (by kernel_rfl) (by kernel_rfl) (fun _ _ _ h => h) (Or.inl ⟨by rfl, ?_⟩) hHeld ?_
            · intro w hSw
              obtain ⟨q0, q1, q2, q3, q4, q5, q6, q7, q8⟩ := hSw
              go_simp
            simp only [Act.put, List.setIfInBounds_toArray, List.set_cons_zero, List.set_cons_succ]
            refine wpAnyH_take (i := 5) (v := undef) rfl (by kernel_rfl) (by kernel_rfl) (by kernel_rfl) (fun _ _ _ h => h) (Or.inr ⟨by rfl, rfl⟩) hHeld ?_
            simp only [Act.put, List.setIfInBounds_toArray, List.set_cons_zero, List.set_cons_succ]
            refine wpAnyH_take (i := 6) (v := undef) rfl (by kernel_rfl) (by kernel_rfl) (by kernel_rfl) (fun _ _ _ h => h) (Or.inr ⟨by rfl, rfl⟩) hHeld ?_
            simp only [Act.put, List.setIfInBounds_toArray, List.set_cons_zero, List.set_cons_succ]
            refine wpAnyH_take (i := 7) (v := undef) rfl (by kernel_rfl) (by kernel_rfl) (by kernel_rfl) (fun _ _ _ h => h) (Or.inr ⟨by rfl, rfl⟩) hHeld ?_
            simp only [Act.put, List.setIfInBounds_toArray, List.set_cons_zero, List.set_cons_succ]
            refine wpAnyH_take (i := 9) (v := undef) rfl (by kernel_rfl) (by kernel_rfl) (by kernel_rfl) (fun _ _ _ h => h) (Or.inr ⟨by rfl, rfl⟩) hHeld ?_
            try simp only [Act.put, List.setIfInBounds_toArray, List.set_cons_zero, List.set_cons_succ]
            refine wpAnyH_ready (rs := [8]) (by kernel_rfl) (by simp) ?_
            refine AllReadyH.cons (o := _) rfl (fun K hK => ?_) AllReadyH.nil
            go_simp
            refine hK.out _ _ hHeld (fun hHeld => ?_)
            clear hK
            try simp only [Act.put, List.setIfInBounds_toArray, List.set_cons_zero, List.set_cons_succ]
            refine wpAnyH_ready (rs := [10]) (by kernel_rfl) (by simp) ?_
            refine AllReadyH.cons (o := _) rfl (fun K hK => ?_) AllReadyH.nil
            go_simp
            refine hK.out _ _ hHeld (fun hHeld => ?_)
            clear hK
            try simp only [Act.put, List.setIfInBounds_toArray, List.set_cons_zero, List.set_cons_succ]
            refine wpAnyH_take (i := 11) (v := .bool false) rfl (by kernel_rfl) (by kernel_rfl) (by kernel_rfl) (fun _ _ _ h => h) (Or.inl ⟨by rfl, ?_⟩) hHeld ?_
            · intro w hSw
              go_simp
            try simp only [Act.put, List.setIfInBounds_toArray, List.set_cons_zero, List.set_cons_succ]
            refine wpAnyH_done (by kernel_rfl) ?_ _
            clear hHeld
            have HB10 := Lib.hid (HBB.out.trans (HB9.out.mono hsz0))
            clear v0 v1 v2 v3 v4 v5 v6 v7 v8
            go_wp2_with fail
            go_roundw
            case rel => exact ⟨f + 1, by omega, by go_num, fun g hg => by
                by_cases h : g < f
                · exact HFG.out g h
                · rw [show g = f by omega]; exact HMI.out, HB10.out⟩
            case measure => simp [intOf]; omega
          · rw [hp] at HPS HHI
            clear hp
            go_region_held3 (fun w' => w'.cell? ⟨w.heap.size, 0, none⟩ = some (.int .i64 k) ∧ w'.cell? ⟨w.heap.size, 1, none⟩ = some (.int .i64 n) ∧ w'.cell? ⟨w.heap.size, 2, none⟩ = some (.slice ua xl.length uc) ∧
                w'.cell? ⟨w.heap.size + 1, 0, none⟩ = some (.int .i64 k2) ∧ w'.cell? ⟨w.heap.size + 1, 1, none⟩ = some (.int .i64 n2) ∧ w'.cell? ⟨w.heap.size + 1, 2, none⟩ = some (.slice va l.length vc) ∧
                w'.cell? ⟨Bd, 0, none⟩ = some (.int .i64 0) ∧ w'.cell? ⟨Bd, 1, none⟩ = some (.int .i64 (f : Int)) ∧ w'.cell? ⟨Bd, 2, none⟩ = some (.bool inv))
              (first | exact ⟨v0, v1, v2, v3, v4, v5, v6, v7, v8⟩ | exact ⟨c0, c1, c2, c3, c4, c5, c6, c7, c8⟩ | go_keep)
              (first
                | (go_at_call 59
                   (with_reducible refine (HPS.out _ ?_).mono ?_)
                   · exact below_drewN (Below.refl _ _) _
                   rintro e w8 ⟨rfl, hb8'⟩
                   have hb9 := below_undrew hb8'
                   have HB9 := Lib.hid hb9
                   have v0 := (hb9).cell hza |>.trans HCS.out.1
                   have v1 := (hb9).cell hza |>.trans HCS.out.2.1
                   have v2 := (hb9).cell hza |>.trans HCS.out.2.2.1
                   have v3 := (hb9).cell hzb |>.trans HCS.out.2.2.2.1
                   have v4 := (hb9).cell hzb |>.trans HCS.out.2.2.2.2.1
                   have v5 := (hb9).cell hzb |>.trans HCS.out.2.2.2.2.2.1
                   have v6 := (hb9).cell hzd |>.trans HCS.out.2.2.2.2.2.2.1
                   have v7 := (hb9).cell hzd |>.trans HCS.out.2.2.2.2.2.2.2.1
                   have v8 := (hb9).cell hzd |>.trans HCS.out.2.2.2.2.2.2.2.2
                   clear hb8' hb9)
                | (go_at_call 56
                   (with_reducible refine (HDR.out _ ?_).mono ?_)
                   · exact HB9.out
                   rintro e w9 ⟨v9, rfl, ho9, hb9'⟩
                   have hb9 := ext_trans HB9.out hb9'
                   have HO9 := Lib.hid (SlR.of_own ho9)
                   obtain ⟨a9, c9, rfl, -, -⟩ := (SlR.of_own ho9).shape
                   have HB9 := Lib.hid hb9
                   have v0 := (hb9).cell hza |>.trans HCS.out.1
                   have v1 := (hb9).cell hza |>.trans HCS.out.2.1
                   have v2 := (hb9).cell hza |>.trans HCS.out.2.2.1
                   have v3 := (hb9).cell hzb |>.trans HCS.out.2.2.2.1
                   have v4 := (hb9).cell hzb |>.trans HCS.out.2.2.2.2.1
                   have v5 := (hb9).cell hzb |>.trans HCS.out.2.2.2.2.2.1
                   have v6 := (hb9).cell hzd |>.trans HCS.out.2.2.2.2.2.2.1
                   have v7 := (hb9).cell hzd |>.trans HCS.out.2.2.2.2.2.2.2.1
                   have v8 := (hb9).cell hzd |>.trans HCS.out.2.2.2.2.2.2.2.2
                   clear hb9' hb9 ho9)
                | (go_at_call 60
                   (with_reducible refine (ref_Equal k n k n _ _ dl xl _ ?_ ?_).mono ?_)
                   · exact HO9.out
                   · exact HU.out.below (HBB.out.trans (HB9.out.mono hsz0))
                   rintro e w10 ⟨rfl, hb9'⟩
                   have hb9 := ext_trans HB9.out hb9'
                   have HB9 := Lib.hid hb9
                   have v0 := (hb9).cell hza |>.trans HCS.out.1
                   have v1 := (hb9).cell hza |>.trans HCS.out.2.1
                   have v2 := (hb9).cell hza |>.trans HCS.out.2.2.1
                   have v3 := (hb9).cell hzb |>.trans HCS.out.2.2.2.1
                   have v4 := (hb9).cell hzb |>.trans HCS.out.2.2.2.2.1
                   have v5 := (hb9).cell hzb |>.trans HCS.out.2.2.2.2.2.1
                   have v6 := (hb9).cell hzd |>.trans HCS.out.2.2.2.2.2.2.1
                   have v7 := (hb9).cell hzd |>.trans HCS.out.2.2.2.2.2.2.2.1
                   have v8 := (hb9).cell hzd |>.trans HCS.out.2.2.2.2.2.2.2.2
                   clear hb9' hb9)
                | fail "no arm")
            rename_i hh
            clear hh
            cases hq9 : sEq k n dl k n xl
            · have HMI := Lib.hid (show rHit (k, n, xl) (k2, n2, l) inv f = false by
                rw [HHI.out, Bool.true_and, decide_eq_false_iff_not]
                intro hdl
                rw [hdl] at hq9
                unfold sEq sameC at hq9
                simp at hq9)
              clear hq9
              have HB10 := Lib.hid (HBB.out.trans (HB9.out.mono hsz0))
              clear v0 v1 v2 v3 v4 v5 v6 v7 v8
              go_wp2_with fail
              go_roundw
              case rel => exact ⟨f + 1, by omega, by go_num, fun g hg => by
                  by_cases h : g < f
                  · exact HFG.out g h
                  · rw [show g = f by omega]; exact HMI.out, HB10.out⟩
              case measure => simp [intOf]; omega
            · have HMI := Lib.hid (show rHit (k, n, xl) (k2, n2, l) inv f = true by
                rw [HHI.out, Bool.true_and, decide_eq_true_iff]
                unfold sEq sameC at hq9
                simp at hq9
                exact hq9)
              clear hq9
              have HRR := Lib.hid (show firstR (k, n, xl) (k2, n2, l) = some (f, inv) by
                cases hiv : inv
                · rw [hiv] at HMI HFG
                  exact first_at0 HFG.out HMI.out hfl
                · rw [hiv] at HMI HFG
                  exact first_at1 (HN0.out (by have := HIQ.out; rw [hiv] at this; have := of_decide_eq_true this.symm; omega)) HFG.out HMI.out hfl)
              have hxr := H3.out.below (HBB.out.trans (HB9.out.mono hsz0)) (by omega)
              have e0 := hxr.cell (j := 0) rfl
              have e1 := hxr.cell (j := 1) rfl
              have e2 := hxr.cell (j := 2) rfl
              have f0 := hxr.free (j := 0) (by simp)
              have f1 := hxr.free (j := 1) (by simp)
              have f2 := hxr.free (j := 2) (by simp)
              go_wp2_with fail
              obtain ⟨g0, g1, g2⟩ := set3 e0 e1 e2 (.int .i64 0) (.int .i64 (f : Int)) (.bool inv)
              refine bodyPost_ret (v := .tuple #[.agg #[.int .i64 0, .int .i64 (f : Int), .bool inv], .bool true]) (by simp [results, Tryz.results42, go_sem, g0, g1, g2]) rfl ?_
              rw [HRR.out]
              exact ⟨rfl, below_set3' (HB3.out.trans ((HBB.out.trans (HB9.out.mono hsz0)).mono HB3.out.size)) (by omega) _ _ _⟩
        · have hfd : decide ((f : Int) ≤ max 0 (n2 - n)) = false := by rw [decide_eq_false_iff_not]; exact hfl
          have HE := Lib.hid (first_end (x := (k, n, xl)) (st := (k2, n2, l)) HFG.out (by dsimp only; omega))
          go_wp2_with fail
          go_roundw
          case rel => exact ⟨q + 1, by omega, by go_num, fun _ => by
              by_cases h : q = 0
              · have := HE.out; rw [HIQ.out, h] at this; exact this
              · exact HN0.out (by omega), fun h => by have := HE.out; rw [HIQ.out, show q = 1 by omega] at this; exact this, HBF.out⟩
          case measure => simp [intOf]; omega
    · obtain rfl : q = 2 := by omega
      have HR := Lib.hid (first_none (x := (k, n, xl)) (st := (k2, n2, l)) (HN0.out (by omega)) (HN1.out (by omega)))
      have hd := H3.out.below HB.out (by omega)
      have e0 := hd.cell (j := 0) rfl
      have e1 := hd.cell (j := 1) rfl
      have e2 := hd.cell (j := 2) rfl
      have f0 := hd.free (j := 0) (by simp)
      have f1 := hd.free (j := 1) (by simp)
      have f2 := hd.free (j := 2) (by simp)
      go_wp2_with fail
      obtain ⟨g0, g1, g2⟩ := set3 e0 e1 e2 (.int .i64 0) (.int .i64 0) (.bool false)
      refine bodyPost_ret (v := .tuple #[.agg #[.int .i64 0, .int .i64 0, .bool false], .bool false]) (by simp [results, Tryz.results42, go_sem, g0, g1, g2]) rfl ?_
      rw [HR.out]
      exact ⟨rfl, below_set3' (HB3.out.trans (HB.out.mono HB3.out.size)) (by omega) _ _ _⟩
end Go.Proofs.YtimeilkelnljnaaGreatDoor
