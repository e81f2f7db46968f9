import Derived.Test.YtimeilkelnljnaaGreatDoorLw1
namespace Go.Proofs.YtimeilkelnljnaaGreatDoor
open Go.RowKit Go.Sort

/-! what the laws of Find call of the library -/
set_option maxHeartbeats 400000 in
theorem no_R (s : Sg) (v : Value) (w : World) (hg : Glob w) (hs : SlR w v s.2.2.length (chs s.2.2)) (hf : Fit s.2.2) :
    Calls Tryz.prog 28 #[.agg #[.int .i64 s.1, .int .i64 s.2.1, v]] w fun e w' => e = .returned (.bool (!svS s)) ∧ Below w.heap.size w w' := by
  obtain ⟨a, cap, rfl, -, -⟩ := hs.shape
  have hb := (Below.refl w.heap.size w).alloc (Nat.le_refl _) (.cells #[.int .i64 s.1, .int .i64 s.2.1, .slice a s.2.2.length cap] 37)
  have HV := Lib.hid (sig_Valid s.1 s.2.1 _ s.2.2 _ (hg.below hb) (hs.below hb) hf)
  clear hg hs hb
  go_enter Tryz.func28, Tryz.ntmps28
  go_wp2_with fail
  refine HV.out.mono ?_
  rintro e w1 ⟨rfl, hb⟩
  go_wp2_with fail
  go_ret
  exact ⟨rfl, ext_alloc hb⟩
set_option maxHeartbeats 400000 in
set_option maxRecDepth 100000 in
theorem ixl_R (v : Value) (L : List (Sg × Value)) (w : World) (hg : Glob w) (hs : Sigs w v L) (hf : FitS L) :
    Calls Tryz.prog 61 #[v, (.func (.func 28) #[] #[])] w (IxPost (L.any fun x => !svS x.1) w) := by
  obtain ⟨a, cap, rfl, hc, hm⟩ := hs.s.shape
  unfold maxLen at hm
  have HS := Lib.hid hs
  have HG := Lib.hid hg
  have HF := Lib.hid hf
  clear hs hg hf
  go_enter Tryz.func61, Tryz.ntmps61
  go_wp2_with fail
  go_loopw [8] (fun i wr => ∃ j : Nat, j ≤ L.length ∧ i = .int .i64 j ∧ (L.drop j).any (fun x => !svS x.1) = L.any (fun x => !svS x.1) ∧ Below w.heap.size w wr) (fun i _ => L.length - (intOf i).toNat)
  case atStart => exact ⟨0, Nat.zero_le _, rfl, rfl, Below.refl _ _⟩
  case round =>
    obtain ⟨j, hj, rfl, hgo, hb⟩ := hrel
    have HGO := Lib.hid hgo
    have HB := Lib.hid hb
    clear hgo hb
    by_cases hlt : j < L.length
    · obtain ⟨b, o, rfl, d0, d1, d2, hd⟩ := (HS.out.below HB.out).at hlt
      have HC := Lib.hid (no_R L[j].1 L[j].2 wr (HG.out.below HB.out) hd (HF.out.2 _ (List.getElem_mem hlt)))
      have HGO2 := Lib.hid ((any_drop (p := fun s => !svS s) hlt).symm.trans HGO.out)
      generalize L[j] = x at d0 d1 d2 hd HC HGO2
      obtain ⟨⟨xk, xn, xl⟩, xv⟩ := x
      dsimp only at d0 d1 d2 hd HC HGO2
      obtain ⟨xa, xc, rfl, -, -⟩ := hd.shape
      clear hd
      go_wp2_with fail
      refine HC.out.mono ?_
      rintro e w1 ⟨rfl, hb1⟩
      have HB1 := Lib.hid (ext_trans HB.out hb1)
      clear hb1 d0 d1 d2
      cases hp : svS (xk, xn, xl)
      · have HR := Lib.hid (show true = L.any (fun x => !svS x.1) by rw [← HGO2.out, hp]; rfl)
        clear hp
        go_wp2_with fail
        go_ret
        exact ⟨⟨j, rfl, by rw [← HR.out]; simp, by omega⟩, HB1.out⟩
      · have HGO3 := Lib.hid (show (L.drop (j + 1)).any (fun x => !svS x.1) = L.any (fun x => !svS x.1) by rw [← HGO2.out, hp]; simp)
        clear hp
        go_wp2_with fail
        go_roundw
        case rel => exact ⟨j + 1, by omega, by go_num, HGO3.out, HB1.out⟩
        case measure => simp [intOf]; omega
    · obtain rfl : j = L.length := by omega
      have HR := Lib.hid (show false = L.any (fun x => !svS x.1) by rw [← HGO.out, List.drop_length]; rfl)
      go_wp2_with fail
      go_ret
      exact ⟨⟨-1, rfl, by rw [← HR.out]; rfl, by omega⟩, HB.out⟩
set_option maxHeartbeats 400000 in
theorem con_R (v : Value) (L : List (Sg × Value)) (w : World) (hg : Glob w) (hs : Sigs w v L) (hf : FitS L) :
    Calls Tryz.prog 21 #[v, (.func (.func 28) #[] #[])] w fun e w' => e = .returned (.bool (!(L.map Prod.fst).all svS)) ∧ Below w.heap.size w w' := by
  have HI := Lib.hid (ixl_R v L w hg hs hf)
  have HE := Lib.hid (show (L.any fun x => !svS x.1) = !(L.map Prod.fst).all svS by rw [List.all_map, List.not_all_eq_any_not]; rfl)
  generalize (L.any fun x => !svS x.1) = r at HI HE
  obtain ⟨a, cap, rfl, hc, hm⟩ := hs.s.shape
  clear hs hg hf
  go_enter Tryz.func21, Tryz.ntmps21
  go_wp2_with fail
  refine HI.out.mono ?_
  rintro e w1 ⟨⟨i, rfl, hi, hi1⟩, hb⟩
  have HH := Lib.hid (hi.trans HE.out)
  clear hi
  go_wp2_with fail
  go_ret
  exact ⟨ret_bool HH.out, hb⟩
set_option maxHeartbeats 400000 in
theorem no_A (s : Sg) (v : Value) (w : World) (hg : Glob w) (hs : SlR w v s.2.2.length (chs s.2.2)) (hf : Fit s.2.2) :
    Calls Tryz.prog 22 #[.agg #[.int .i64 s.1, .int .i64 s.2.1, v]] w fun e w' => e = .returned (.bool (!svS s)) ∧ Below w.heap.size w w' := by
  obtain ⟨a, cap, rfl, -, -⟩ := hs.shape
  have hb := (Below.refl w.heap.size w).alloc (Nat.le_refl _) (.cells #[.int .i64 s.1, .int .i64 s.2.1, .slice a s.2.2.length cap] 37)
  have HV := Lib.hid (sig_Valid s.1 s.2.1 _ s.2.2 _ (hg.below hb) (hs.below hb) hf)
  clear hg hs hb
  go_enter Tryz.func22, Tryz.ntmps22
  go_wp2_with fail
  refine HV.out.mono ?_
  rintro e w1 ⟨rfl, hb⟩
  go_wp2_with fail
  go_ret
  exact ⟨rfl, ext_alloc hb⟩
set_option maxHeartbeats 400000 in
set_option maxRecDepth 100000 in
theorem ixl_A (v : Value) (L : List (Sg × Value)) (w : World) (hg : Glob w) (hs : Sigs w v L) (hf : FitS L) :
    Calls Tryz.prog 61 #[v, (.func (.func 22) #[] #[])] w (IxPost (L.any fun x => !svS x.1) w) := by
  obtain ⟨a, cap, rfl, hc, hm⟩ := hs.s.shape
  unfold maxLen at hm
  have HS := Lib.hid hs
  have HG := Lib.hid hg
  have HF := Lib.hid hf
  clear hs hg hf
  go_enter Tryz.func61, Tryz.ntmps61
  go_wp2_with fail
  go_loopw [8] (fun i wr => ∃ j : Nat, j ≤ L.length ∧ i = .int .i64 j ∧ (L.drop j).any (fun x => !svS x.1) = L.any (fun x => !svS x.1) ∧ Below w.heap.size w wr) (fun i _ => L.length - (intOf i).toNat)
  case atStart => exact ⟨0, Nat.zero_le _, rfl, rfl, Below.refl _ _⟩
  case round =>
    obtain ⟨j, hj, rfl, hgo, hb⟩ := hrel
    have HGO := Lib.hid hgo
    have HB := Lib.hid hb
    clear hgo hb
    by_cases hlt : j < L.length
    · obtain ⟨b, o, rfl, d0, d1, d2, hd⟩ := (HS.out.below HB.out).at hlt
      have HC := Lib.hid (no_A L[j].1 L[j].2 wr (HG.out.below HB.out) hd (HF.out.2 _ (List.getElem_mem hlt)))
      have HGO2 := Lib.hid ((any_drop (p := fun s => !svS s) hlt).symm.trans HGO.out)
      generalize L[j] = x at d0 d1 d2 hd HC HGO2
      obtain ⟨⟨xk, xn, xl⟩, xv⟩ := x
      dsimp only at d0 d1 d2 hd HC HGO2
      obtain ⟨xa, xc, rfl, -, -⟩ := hd.shape
      clear hd
      go_wp2_with fail
      refine HC.out.mono ?_
      rintro e w1 ⟨rfl, hb1⟩
      have HB1 := Lib.hid (ext_trans HB.out hb1)
      clear hb1 d0 d1 d2
      cases hp : svS (xk, xn, xl)
      · have HR := Lib.hid (show true = L.any (fun x => !svS x.1) by rw [← HGO2.out, hp]; rfl)
        clear hp
        go_wp2_with fail
        go_ret
        exact ⟨⟨j, rfl, by rw [← HR.out]; simp, by omega⟩, HB1.out⟩
      · have HGO3 := Lib.hid (show (L.drop (j + 1)).any (fun x => !svS x.1) = L.any (fun x => !svS x.1) by rw [← HGO2.out, hp]; simp)
        clear hp
        go_wp2_with fail
        go_roundw
        case rel => exact ⟨j + 1, by omega, by go_num, HGO3.out, HB1.out⟩
        case measure => simp [intOf]; omega
    · obtain rfl : j = L.length := by omega
      have HR := Lib.hid (show false = L.any (fun x => !svS x.1) by rw [← HGO.out, List.drop_length]; rfl)
      go_wp2_with fail
      go_ret
      exact ⟨⟨-1, rfl, by rw [← HR.out]; rfl, by omega⟩, HB.out⟩
set_option maxHeartbeats 400000 in
theorem con_A (v : Value) (L : List (Sg × Value)) (w : World) (hg : Glob w) (hs : Sigs w v L) (hf : FitS L) :
    Calls Tryz.prog 21 #[v, (.func (.func 22) #[] #[])] w fun e w' => e = .returned (.bool (!(L.map Prod.fst).all svS)) ∧ Below w.heap.size w w' := by
  have HI := Lib.hid (ixl_A v L w hg hs hf)
  have HE := Lib.hid (show (L.any fun x => !svS x.1) = !(L.map Prod.fst).all svS by rw [List.all_map, List.not_all_eq_any_not]; rfl)
  generalize (L.any fun x => !svS x.1) = r at HI HE
  obtain ⟨a, cap, rfl, hc, hm⟩ := hs.s.shape
  clear hs hg hf
  go_enter Tryz.func21, Tryz.ntmps21
  go_wp2_with fail
  refine HI.out.mono ?_
  rintro e w1 ⟨⟨i, rfl, hi, hi1⟩, hb⟩
  have HH := Lib.hid (hi.trans HE.out)
  clear hi
  go_wp2_with fail
  go_ret
  exact ⟨ret_bool HH.out, hb⟩

set_option maxHeartbeats 400000 in
set_option maxRecDepth 100000 in
theorem sorted_yes (v : Value) (st : List Nat) (w : World) (hs : SlR w v st.length (nats st)) (hl : st.length ≤ 1000000) (hst : st.Pairwise fun x y => x < y) :
    Calls Tryz.prog 29 #[v] w fun e w' => e = .returned (.bool true) ∧ Below w.heap.size w w' := by
  obtain ⟨a, cap, rfl, hc, hm⟩ := hs.shape
  have HS := Lib.hid hs
  have HP := Lib.hid hst
  clear hs hst
  go_enter Tryz.func29, Tryz.ntmps29
  have hw0 : IntKind.i64.wrap ((st.length : Int) - 1) = (st.length : Int) - 1 := IntWalk.i64_in _ (by omega)
  go_wp2_with fail
  go_loopw [3] (fun i wr => ∃ j : Int, -1 ≤ j ∧ j < (st.length : Int) ∧ i = .int .i64 j ∧ Below w.heap.size w wr) (fun i _ => (intOf i).toNat)
  case atStart => exact ⟨(st.length : Int) - 1, by omega, by omega, rfl, Below.refl _ _⟩
  case round =>
    obtain ⟨j, hj0, hj1, rfl, hb⟩ := hrel
    have HB := Lib.hid hb
    clear hb
    by_cases hlt : 0 < j
    · obtain ⟨q, rfl⟩ : ∃ q : Nat, j = ((q + 1 : Nat) : Int) := ⟨(j - 1).toNat, by omega⟩
      have hq1 : q + 1 < st.length := by omega
      obtain ⟨b, o, c', hv, -, -, hcell⟩ := (HS.out.below HB.out).at (by omega)
      injection hv with e1 e2 e3
      subst e1
      clear e2 e3
      have d0 := hcell (q + 1) (.int .i64 ((st[q + 1] : Nat) : Int)) (by simp [nats, hq1])
      have d1 := hcell q (.int .i64 ((st[q]'(by omega) : Nat) : Int)) (by simp [nats, show q < st.length by omega])
      have hle : st[q]'(by omega) < st[q + 1] := List.pairwise_iff_getElem.1 HP.out q (q + 1) (by omega) hq1 (by omega)
      have hw1 : IntKind.i64.wrap (((q + 1 : Nat) : Int) - 1) = (q : Int) := by rw [IntWalk.i64_in _ (by omega)]; omega
      have HCL := Lib.hid (fun W => Tryz.cmp_Less_int2 ((st[q + 1] : Nat) : Int) ((st[q]'(by omega) : Nat) : Int) W)
      rw [decide_eq_false (show ¬ ((st[q + 1] : Nat) : Int) < ((st[q]'(by omega) : Nat) : Int) by omega)] at HCL
      generalize st[q + 1] = x at d0 HCL hle
      generalize st[q]'(by omega) = y at d1 HCL hle
      clear hcell hle
      go_wp2_with fail
      go_quiet ((go_at_call 65; exact Calls.quiet_of_same (HCL.out _)))
      go_wp2_with fail
      go_roundw
      case rel => exact ⟨(q : Int), by omega, by omega, by go_num, below_drewN HB.out _⟩
      case measure => simp [intOf]
    · have hb0 : decide (0 < j) = false := by rw [decide_eq_false_iff_not]; exact hlt
      go_wp2_with fail
      go_ret
      exact ⟨rfl, HB.out⟩

theorem keeps_all {zs : List Int} (h : zs.Pairwise fun x y => x < y) : Lib.compact zs = zs := by
  unfold Lib.compact Lib.compactUpTo
  have h1 : (List.range zs.length).filter (Lib.keeps zs.toArray) = List.range zs.length := by
    rw [List.filter_eq_self]
    intro i hi
    rw [List.mem_range] at hi
    unfold Lib.keeps
    rw [decide_eq_true_iff]
    by_cases h0 : i = 0
    · exact .inl h0
    · refine .inr ?_
      rw [getElem!_pos zs.toArray i (by simpa using hi), getElem!_pos zs.toArray (i - 1) (by simp; omega)]
      have := List.pairwise_iff_getElem.1 h (i - 1) i (by omega) hi (by omega)
      simp
      omega
  rw [h1]
  apply List.ext_getElem
  · simp
  · intro i h2 h3
    simp [h3]
theorem clone_nats (v : Value) (st : List Nat) (w : World) (hs : SlR w v st.length (nats st)) (hl : st.length ≤ 1000000) :
    Calls Tryz.prog 31 #[v] w fun e w' => ∃ v', e = .returned v' ∧ w'.ownsRow w.heap.size 3 1 v' st.length (nats st) ∧ Below w.heap.size w w' := by
  by_cases hp : 0 < st.length
  · obtain ⟨b, o, cap, rfl, -, -, hcell⟩ := hs.at hp
    refine (Tryz.slices_Clone_int b o st.length cap (st.map fun (k : Nat) => (k : Int)) w (by simp) (by omega) (fun j hj => hcell j _ (by
      rw [List.length_map] at hj
      simp [nats, List.getD, hj]))).mono ?_
    rintro e w' ⟨v', rfl, h1, -, h2⟩
    refine ⟨v', rfl, ?_, h2⟩
    rw [List.take_of_length_le (by simp)] at h1
    rw [nats_ints]
    exact h1
  · have h0 : st = [] := List.eq_nil_of_length_eq_zero (by omega)
    subst h0
    obtain ⟨a, cap, rfl, hc, hm⟩ := hs.shape
    rcases a with _ | ad
    · refine (Tryz.slices_Clone_int_nil 0 cap w).mono ?_
      rintro e w' ⟨rfl, rfl⟩
      exact ⟨_, rfl, own_nil _ _ _ _, Below.refl _ _⟩
    · refine (Tryz.slices_Clone_int_zero ad cap w).mono ?_
      rintro e w' ⟨v', rfl, h1, -, h2⟩
      exact ⟨v', rfl, h1, h2⟩
/-- compacting what has no equal neighbours leaves the length -/
theorem compact_nats (B : Nat) (v : Value) (st : List Nat) (w : World) (h : w.ownsRow B 3 1 v st.length (nats st)) (hB : B ≤ w.heap.size) (hl : st.length ≤ 1000000) (hst : st.Pairwise fun x y => x < y) :
    Calls Tryz.prog 30 #[v] w fun e w' => (∃ a c, e = .returned (.slice a st.length c)) ∧ Below B w w' := by
  rw [nats_ints] at h
  have hk : Lib.compact (st.map fun (k : Nat) => (k : Int)) = st.map fun (k : Nat) => (k : Int) := keeps_all (List.pairwise_map.2 (hst.imp fun h => by omega))
  rcases h.2 with ⟨rfl, h0⟩ | ⟨g, cap, cur, rfl, hbase, hb, hn, hm, hsz, htk⟩
  · have h1 : st = [] := by cases st with
      | nil => rfl
      | cons x l => simp at h0
    subst h1
    refine (Tryz.slices_Compact_int_empty none 0 w).mono ?_
    rintro e w' ⟨rfl, rfl⟩
    exact ⟨⟨_, _, rfl⟩, Below.refl _ _⟩
  · have hlen : (st.map fun (k : Nat) => (k : Int)).length = st.length := by simp
    have hH := holds_of_blockI (ss := st.map fun (k : Nat) => (k : Int)) hb (by rw [hlen]; rw [Nat.mul_one] at htk; exact htk)
    have hs := Tryz.slices_Compact_int g 0 cap (st.map fun (k : Nat) => (k : Int)) w hH (by rw [hlen]; omega) (by rw [hlen]; exact hn)
    rw [hk, hlen] at hs
    refine hs.mono ?_
    rintro e w' ⟨rfl, n, rfl⟩
    have hg := grownBy_sortedI (w := w) (g := g) (n := n) (os := #[]) ((st.map fun (k : Nat) => (k : Int)) ++ List.replicate (st.length - st.length) (0 : Int)).toArray
    rw [grow_empty] at hg
    exact ⟨⟨_, _, rfl⟩, (Below.refl B w).grown hg hB (fun q hq => by injection hq with hq; subst hq; exact hbase)⟩
end Go.Proofs.YtimeilkelnljnaaGreatDoor
