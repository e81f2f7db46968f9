import Derived.Test.YtbiadennhnokhaaGreatDoorZ27
import Derived.Test.YtbiadennhnokhaaGreatDoorZ16
/- The stable sort of variables: blocks of twenty by insertion, then merged. -/
namespace Go.Proofs.YtbiadennhnokhaaGreatDoor
open Go.RowKit
set_option linter.unusedSimpArgs false

theorem ss_insertN (base g c n a b : Nat) (P M S : List Vr) (w : World) (hg : SO base g n c w (P ++ (M ++ S))) (hp : P.length = a) (hM : a + M.length = b) (hn : n ≤ 1000) :
    Calls Tryz.prog 266 #[.slice (some ⟨g, 0, none⟩) n c, .int .i64 a, .int .i64 b, (.func (.func 166) #[] #[])] w fun e w' =>
      e = .returned (.tuple #[]) ∧ SO base g n c w' (P ++ (isort vk M ++ S)) ∧ Below base w w' := by
  have h6 := hg.len
  have h5 := ss_insert base g c a b (P ++ (M ++ S)) P M S w (by rw [h6]; exact hg) rfl hp hM (by rw [h6]; exact hn)
  rw [h6] at h5
  exact h5

set_option maxHeartbeats 3200000 in
set_option maxRecDepth 100000 in
theorem ss_stable (base g c n : Nat) (l : List Vr) (w : World) (hg : SO base g n c w l) (hn : n ≤ 1000) :
    Calls Tryz.prog 220 #[.slice (some ⟨g, 0, none⟩) n c, .int .i64 n, (.func (.func 166) #[] #[])] w fun e w' =>
      e = .returned (.tuple #[]) ∧ SO base g n c w' (isort vk l) ∧ Below base w w' := by
  have H0 := Lib.hid hg
  have HN := Lib.hid (And.intro hg.len hn)
  clear hg hn
  go_enter Tryz.func220, Tryz.ntmps220
  go_wp2_with fail
  go_loopw [7, 8] (fun va vb wr => ∃ (a b : Nat) (D R : List Vr), va = .int .i64 a ∧ vb = .int .i64 b ∧ b = a + 20 ∧ D.length = a ∧ a + R.length = n ∧ D ++ cs vk 20 R = cs vk 20 l ∧ SO base g n c wr (D ++ R) ∧ Below base w wr) (fun va _ _ => n - (intOf va).toNat)
  case atStart =>
    have h9 := HN.out
    exact ⟨0, 20, [], l, rfl, rfl, rfl, rfl, by omega, rfl, H0.out, Below.refl _ _⟩
  case round =>
    obtain ⟨a, b, D, R, rfl, rfl, hab, hD, hR, hc, hs, hbw⟩ := hrel
    have h9 := HN.out
    have HB := Lib.hid hbw
    have HS := Lib.hid hs
    have HC := Lib.hid hc
    by_cases hle : b ≤ n
    · have hw : IntKind.i64.wrap ((b : Int) + 20) = ((b + 20 : Nat) : Int) := by rw [IntWalk.i64_in _ (by omega)]; omega
      obtain ⟨b2, hb2⟩ : ∃ b2, b + 20 = b2 := ⟨_, rfl⟩
      rw [hb2] at hw
      have HI := Lib.hid (ss_insertN base g c n a b D (R.take 20) (R.drop 20) wr (by rw [List.take_append_drop]; exact hs) hD (by rw [List.length_take]; omega) h9.2)
      have HST := Lib.hid (cs_step (k := vk) (n := 20) (l := R) (by omega) (by omega))
      have HX := Lib.hid (show b = a + 20 ∧ D.length = a ∧ a + R.length = n ∧ b + 20 = b2 ∧ n ≤ 1000 from ⟨hab, hD, hR, hb2, h9.2⟩)
      clear hc hs hbw hab hD hR hb2 h9
      go_wp2_with fail
      refine HI.out.mono ?_
      rintro e w1 ⟨rfl, hs1, hb1⟩
      have HS1 := Lib.hid hs1
      have HB1 := Lib.hid (HB.out.trans hb1)
      clear hs1 hb1
      go_wp2_with fail
      clear hw
      go_roundw
      case rel =>
        have h9 := HX.out
        exact ⟨b, b2, D ++ isort vk (R.take 20), R.drop 20, rfl, rfl, by omega, by rw [List.length_append, isort_len, List.length_take]; omega, by rw [List.length_drop]; omega, by rw [List.append_assoc, ← HST.out]; exact HC.out, by rw [List.append_assoc]; exact HS1.out, HB1.out⟩
      case measure =>
        have h9 := HX.out
        simp [intOf]; omega
    · have hle2 : R.length ≤ 20 := by omega
      have HI := Lib.hid (ss_insertN base g c n a n D R [] wr (by rw [List.append_nil]; exact hs) hD hR h9.2)
      have HX := Lib.hid (show D ++ (isort vk R ++ []) = cs vk 20 l by rw [List.append_nil, ← cs_few hle2]; exact hc)
      clear hc hs hbw hab hD hR h9 hle2 HS HC
      go_wp2_with fail
      refine HI.out.mono ?_
      rintro e w1 ⟨rfl, hs1, hb1⟩
      rw [HX.out] at hs1
      have HS1 := Lib.hid hs1
      have HB1 := Lib.hid (HB.out.trans hb1)
      clear hs1 hb1 HI HX HB
      go_wp2_with fail
      go_loopw [6, 7, 8, 9] (fun vz _ _ _ wr => ∃ z : Nat, vz = .int .i64 z ∧ 0 < z ∧ z ≤ 2000 ∧ SO base g n c wr (cs vk z l) ∧ Below base w wr) (fun vz _ _ _ _ => 2000 - (intOf vz).toNat)
      case atStart => exact ⟨20, rfl, by omega, by omega, HS1.out, HB1.out⟩
      case round =>
        obtain ⟨z, rfl, hz0, hz1, hs2, hb2⟩ := hrel
        have h9 := HN.out
        have HB2 := Lib.hid hb2
        have HS2 := Lib.hid hs2
        by_cases hzn : z < n
        · have HZ := Lib.hid (show 0 < z ∧ z < n ∧ n ≤ 1000 ∧ l.length = n from ⟨hz0, hzn, h9.2, h9.1⟩)
          have hzb : z ≤ 1000 := by omega
          have hlz : (z : Int) < (n : Int) := by omega
          clear hz0 hz1 hs2 hb2 h9
          go_wp2_with fail
          clear hlz
          go_loopw [7, 8] (fun va vb wi => ∃ (a b : Nat) (D R : List Vr), va = .int .i64 a ∧ vb = .int .i64 b ∧ b = a + 2 * z ∧ D.length = a ∧ a + R.length = n ∧ D ++ cs vk (2 * z) R = cs vk (2 * z) l ∧ SO base g n c wi (D ++ cs vk z R) ∧ Below base w wi) (fun va _ _ => n - (intOf va).toNat)
          case atStart =>
            have h9 := HZ.out
            exact ⟨0, 2 * z, [], l, rfl, by go_num, by omega, rfl, by omega, rfl, HS2.out, HB2.out⟩
          case round =>
            obtain ⟨a, b, D, R, rfl, rfl, hab, hD, hR, hc, hs, hbw⟩ := hrel
            have h9 := HZ.out
            have HB := Lib.hid hbw
            have HS := Lib.hid hs
            have HC := Lib.hid hc
            have hA1 : a ≤ 1000 := by omega
            have hA2 : b ≤ 4000 := by omega
            have hcm : ((a + z : Nat) : Int) = (a : Int) + (z : Int) := by omega
            by_cases hle : b ≤ n
            · have hsR : 2 * z ≤ R.length := by omega
              obtain ⟨k1, k2, k3⟩ := cs_two (k := vk) (n := z) (l := R) h9.1 hsR
              have hlen1 : (isort vk (R.take z)).length = z := by rw [isort_len, List.length_take]; omega
              have hlen2 : (isort vk ((R.drop z).take z)).length = z := by rw [isort_len, List.length_take, List.length_drop]; omega
              have HI := Lib.hid (ss_sym base g c _ n a (a + z) b D (isort vk (R.take z)) (isort vk ((R.drop z).take z)) (cs vk z (R.drop (2 * z))) wr (Nat.le_refl _) (by rw [← k1]; exact hs) hD (by omega) (by omega) (by omega) (by omega) (isort_srt _) (isort_srt _) (by omega))
              rw [k2, hcm] at HI
              have HK := Lib.hid k3
              have HX := Lib.hid (show b = a + 2 * z ∧ D.length = a ∧ a + R.length = n ∧ 2 * z ≤ R.length from ⟨hab, hD, hR, hsR⟩)
              clear hc hs hbw hab hD hR h9 hsR k1 k2 k3 hlen1 hlen2 hcm
              go_wp2_with fail
              refine HI.out.mono ?_
              rintro e w1 ⟨rfl, hs1, hb1⟩
              have HS1 := Lib.hid hs1
              have HB1 := Lib.hid (HB.out.trans hb1)
              clear hs1 hb1
              go_wp2_with fail
              go_roundw
              case rel =>
                have h9 := HX.out
                have h8 := HZ.out
                refine ⟨b, b + 2 * z, D ++ isort vk (R.take (2 * z)), R.drop (2 * z), rfl, by go_num, by omega, by rw [List.length_append, isort_len, List.length_take]; omega, by rw [List.length_drop]; omega, ?_, by rw [List.append_assoc]; exact HS1.out, HB1.out⟩
                have h7 := HK.out
                rw [List.append_assoc, ← h7]; exact HC.out
              case measure =>
                have h9 := HX.out
                have h8 := HZ.out
                simp [intOf]; omega
            · by_cases hmn : a + z < n
              · obtain ⟨k1, k2⟩ := cs_tail (k := vk) (n := z) (l := R) h9.1 (by omega) (by omega)
                have hlen1 : (isort vk (R.take z)).length = z := by rw [isort_len, List.length_take]; omega
                have hlen2 : (isort vk (R.drop z)).length = R.length - z := by rw [isort_len, List.length_drop]
                have HI := Lib.hid (ss_sym base g c _ n a (a + z) n D (isort vk (R.take z)) (isort vk (R.drop z)) [] wr (Nat.le_refl _) (by rw [List.append_nil, ← k1]; exact hs) hD (by omega) (by omega) (by omega) (by omega) (isort_srt _) (isort_srt _) (by omega))
                rw [k2, List.append_nil, hc, hcm] at HI
                have hlm : (a : Int) + (z : Int) < (n : Int) := by omega
                clear hc hs hbw hab hD hR h9 k1 k2 hlen1 hlen2 hmn hcm
                go_wp2_with fail
                refine HI.out.mono ?_
                rintro e w1 ⟨rfl, hs1, hb1⟩
                have HS1 := Lib.hid hs1
                have HB1 := Lib.hid (HB.out.trans hb1)
                clear hs1 hb1
                go_wp2_with fail
                go_roundw
                case rel =>
                  have h8 := HZ.out
                  exact ⟨2 * z, by go_num, by omega, by omega, HS1.out, HB1.out⟩
                case measure =>
                  have h8 := HZ.out
                  simp [intOf]; omega
              · have HE := Lib.hid (show SO base g n c wr (cs vk (2 * z) l) by
                  rw [← hc, cs_few (n := 2 * z) (l := R) (by omega), ← cs_few (k := vk) (n := z) (l := R) (by omega)]; exact hs)
                have hlm : ¬ (a : Int) + (z : Int) < (n : Int) := by omega
                clear hc hs hbw hab hD hR h9 hmn hcm
                go_wp2_with fail
                go_roundw
                case rel =>
                  have h8 := HZ.out
                  exact ⟨2 * z, by go_num, by omega, by omega, HE.out, HB.out⟩
                case measure =>
                  have h8 := HZ.out
                  simp [intOf]; omega
        · have HE := Lib.hid (show SO base g n c wr (isort vk l) by rw [← cs_few (k := vk) (n := z) (l := l) (by omega)]; exact hs2)
          clear hs2 hb2 h9
          go_wp2_with fail
          go_end0
          exact ⟨rfl, HE.out, HB2.out⟩
end Go.Proofs.YtbiadennhnokhaaGreatDoor
/- The stable sort of variables, whatever the slice. -/
namespace Go.Proofs.YtbiadennhnokhaaGreatDoor
open Go.RowKit
set_option linter.unusedSimpArgs false

theorem ss_ins_nil (w : World) : Calls Tryz.prog 266 #[.slice none 0 0, .int .i64 0, .int .i64 0, (.func (.func 166) #[] #[])] w fun e w' => e = .returned (.tuple #[]) ∧ w = w' := by
  go_enter Tryz.func266, Tryz.ntmps266
  go_wp2_with fail
  refine wp_loop_rounds 1 ?_
  rw [rounds_succ]
  go_wp2_with fail
  go_end0
  exact ⟨rfl, rfl⟩
theorem ss_stable_nil (w : World) : Calls Tryz.prog 220 #[.slice none 0 0, .int .i64 0, (.func (.func 166) #[] #[])] w fun e w' => e = .returned (.tuple #[]) ∧ w = w' := by
  go_enter Tryz.func220, Tryz.ntmps220
  go_wp2_with fail
  refine wp_loop_rounds 1 ?_
  rw [rounds_succ]
  go_wp2_with fail
  refine (ss_ins_nil w).mono ?_
  rintro e w1 ⟨rfl, rfl⟩
  go_wp2_with fail
  refine wp_loop_rounds 1 ?_
  rw [rounds_succ]
  go_wp2_with fail
  go_end0
  exact ⟨rfl, rfl⟩
theorem hi_sort (base : Nat) (v : Value) (l : List Vr) (w : World) (ho : w.ownsRow base 42 7 v l.length (vrs l)) (hn : l.length ≤ 1000) :
    Calls Tryz.prog 165 #[v, (.func (.func 166) #[] #[])] w fun e w' => e = .returned (.tuple #[]) ∧ w'.ownsRow base 42 7 v l.length (vrs (isort vk l)) ∧ Below base w w' := by
  rcases ho.2 with ⟨rfl, h0⟩ | ⟨g, cap, cur, rfl, -⟩
  · have h1 : l = [] := List.length_eq_zero_iff.1 h0
    subst h1
    have HO := Lib.hid ho
    clear ho h0
    go_enter Tryz.func165, Tryz.ntmps165
    go_wp2_with fail
    refine (ss_stable_nil w).mono ?_
    rintro e w1 ⟨rfl, rfl⟩
    go_wp2_with fail
    go_end0
    exact ⟨rfl, HO.out, Below.refl _ _⟩
  · have HS := Lib.hid (ss_stable base g cap l.length l w ho hn)
    clear ho
    go_enter Tryz.func165, Tryz.ntmps165
    go_wp2_with fail
    refine HS.out.mono ?_
    rintro e w1 ⟨rfl, ho1, hb1⟩
    have HO := Lib.hid ho1
    clear ho1 HS
    go_wp2_with fail
    go_end0
    exact ⟨rfl, HO.out, hb1⟩
end Go.Proofs.YtbiadennhnokhaaGreatDoor
/- hierarchy: the path of a scope of declarations. -/
namespace Go.Proofs.YtbiadennhnokhaaGreatDoor
open Go.RowKit Go.Shelf
attribute [local go_sem] Oper.semAt_some
set_option linter.unusedSimpArgs false

theorem up_len (S : List Sc) : ∀ (f : Nat) (i : Int), (upL S f i).length ≤ f
  | 0, _ => Nat.zero_le _
  | f + 1, i => by
    unfold upL
    split
    · simp
    · split
      · simp
      · have := up_len S f
        simp only [List.length_cons]
        have := this (by assumption : Sc).2.2
        omega
theorem hi_up (a : Option Addr) (m cap : Nat) (i : Int) (w : World) :
    Calls Tryz.prog 260 #[.slice a m cap, .int .i64 i] w fun e w' => e = .returned (.func (.func 286) #[] #[.pointer (some ⟨w.heap.size + 1, 0, none⟩), .pointer (some ⟨w.heap.size, 0, none⟩)]) ∧ w' = (w.alloc (.cells #[.slice a m cap] 22)).alloc (.cells #[.int .i64 i] 3) := by
  go_enter Tryz.func260, Tryz.ntmps260
  go_wp2_with fail
  go_ret
  exact ⟨rfl, rfl⟩
theorem PtI.old {w W W' : World} {v vo : Value} {nms : List Bs} (h : PtI w v nms vo W) (hg : W.grownBy W' vo.ownBlock) : Same0 w W' :=
  Same0.of_below (h.b.grown hg (h.b.size) (fun _ hk => (h.o.lt _ hk).1))
theorem PtI.rev {w W : World} {v vo : Value} {nms : List Bs} (h : PtI w v nms vo W) (hn : nms ≠ []) :
    ∃ g cap, vo = .slice (some ⟨g, 0, none⟩) nms.length cap ∧ Sort.Holds Proofs.encStr W g 0 nms.toArray ∧ ∀ q, PtI w v nms.reverse vo (Sort.putRow Proofs.encStr (Sort.ahead W q) g 0 nms.reverse.toArray) ∧
      (∀ (D : Nat) (o : Obj), W.heap[D]? = some o → o.isCells = false → (Sort.putRow Proofs.encStr (Sort.ahead W q) g 0 nms.reverse.toArray).heap[D]? = some o) := by
  have hnil : vo ≠ .slice none 0 0 := by
    rintro rfl
    have h1 := h.o.1
    rcases h.o.2 with ⟨-, h2⟩ | ⟨g, cap, cur, e0, -⟩
    · exact hn (List.length_eq_zero_iff.1 h2)
    · cases e0
  have ho : W.ownsRow w.heap.size 9 1 vo nms.length (nms.map Proofs.encStr) := h.o
  obtain ⟨g, cap, rfl, hg, hgl, hc1, hc2, -, hH⟩ := Lib.holds_of_ownsRow ho hnil
  have hgb : ∃ cur, W.heap[g]? = some (.cells cur 9 (0, 0)) := by
    rcases ho.2 with ⟨e0, -⟩ | ⟨g', cap', cur, e0, -, hb, -⟩
    · cases e0
    · injection e0 with e0 _ _
      injection e0 with e0
      injection e0 with e0 _ _
      subst e0
      exact ⟨cur, hb⟩
  obtain ⟨cur, hgb⟩ := hgb
  refine ⟨g, cap, rfl, hH, fun q => ?_⟩
  have hfar : ∀ D, D ≠ g → (Sort.putRow Proofs.encStr (Sort.ahead W q) g 0 nms.reverse.toArray).heap[D]? = W.heap[D]? := by
    intro D hD
    simp [Sort.putRow, Go.Sort.mapBlock, Sort.ahead, Array.getElem?_modify, show g ≠ D from fun e => hD e.symm]
  have hne : ∀ (i : Nat) (D : Array Value) (T : TypeId) (fr : Nat × Nat), W.heap[i]? = some (.cells D T fr) → T ≠ 9 → i ≠ g := by
    rintro i D T fr hi hT rfl
    rw [hgb] at hi
    injection hi with hi
    injection hi with _ h5 _
    exact hT h5.symm
  refine ⟨⟨(hfar _ (hne _ _ _ _ h.bs (by decide))).trans h.bs, (hfar _ (hne _ _ _ _ h.bo (by decide))).trans h.bo, ?_, Lib.below_putRow h.b hg⟩, fun D o hD ho' => (hfar D ?_).trans hD⟩
  · have := Lib.ownsRow_putRow (q := q) (ys := nms.reverse) ho (by simp) (Nat.le_refl _)
    rw [List.take_of_length_le (by simp)] at this
    rw [List.length_reverse]
    exact this
  · rintro rfl
    rw [hgb] at hD
    injection hD with hD
    subst hD
    cases ho'
set_option maxRecDepth 100000 in
set_option maxHeartbeats 2000000 in
theorem hi_path (v : Value) (S : List Sc) (i : Nat) (w : World) (hs : SlR w v S.length (scs S)) (hF : Fst (parS S) S.length) (hi : i < S.length) (hl : S.length ≤ 1000) :
    Calls Tryz.prog 203 #[v, .int .i64 i] w fun e w' => ∃ v', e = .returned v' ∧ w'.ownsRow w.heap.size 9 1 v' (upL S (i + 1) i).length (strs ((upL S (i + 1) i).map (nmS S)).reverse) ∧ Below w.heap.size w w' := by
  obtain ⟨i0, hi0, iz0, iz1, iz2⟩ := info_parts (P := Tryz.prog) str_info
  obtain ⟨a, cap, rfl, -, -⟩ := hs.shape
  obtain ⟨L, hL⟩ : ∃ L, upL S (i + 1) i = L := ⟨_, rfl⟩
  have HSP := Lib.hid (up_spec hF (i + 1) (i : Int) (by omega) (by omega) (by omega))
  rw [hL] at HSP ⊢
  have HL := Lib.hid hL
  have HLE := Lib.hid (show L.length ≤ i + 1 by rw [← hL]; exact up_len _ _ _)
  clear hL
  refine (callsIn_wide (n := 6)).1 ?_
  refine callsIn_of_wp_marks Tryz.func203 rfl trivial ?_ rfl
  refine wpIn_wide.2 ?_
  simp only [Tryz.ntmps203, List.size_toArray, List.length_cons, List.length_nil, Nat.reduceAdd, Nat.reduceSub, Array.replicate_succ, Array.replicate_zero, List.push_toArray, List.append_toArray, List.nil_append, List.cons_append]
  go_wp2_with fail
  refine (hi_up _ _ _ _ _).mono ?_
  rintro e w1 ⟨rfl, rfl⟩
  go_wp2_with fail
  obtain ⟨v, hv⟩ : ∃ v, Value.slice a S.length cap = v := ⟨_, rfl⟩
  rw [hv] at hs ⊢
  obtain ⟨W0, hW0⟩ : ∃ X, (((w.alloc (.cells #[v] 22)).alloc (.cells #[.slice none 0 0] 171)).alloc (.cells #[v] 22)).alloc (.cells #[.int .i64 i] 3) = X := ⟨_, rfl⟩
  have hs0 : W0.heap.size = w.heap.size + 4 := by rw [← hW0]; simp
  have h1 := heap_alloc_new w (.cells #[v] 22)
  have b1 : Below w.heap.size w (w.alloc (.cells #[v] 22)) := (Below.refl _ _).alloc (Nat.le_refl _) _
  have e1 : (w.alloc (.cells #[v] 22)).heap.size = w.heap.size + 1 := by simp
  rw [hW0]
  generalize w.alloc (.cells #[v] 22) = x1 at *
  have h2 := heap_alloc_new x1 (.cells #[.slice none 0 0] 171)
  have b2 : Below x1.heap.size x1 (x1.alloc (.cells #[.slice none 0 0] 171)) := (Below.refl _ _).alloc (Nat.le_refl _) _
  have e2 : (x1.alloc (.cells #[.slice none 0 0] 171)).heap.size = w.heap.size + 2 := by simp [e1]
  generalize x1.alloc (.cells #[.slice none 0 0] 171) = x2 at *
  have h3 := heap_alloc_new x2 (.cells #[v] 22)
  have b3 : Below x2.heap.size x2 (x2.alloc (.cells #[v] 22)) := (Below.refl _ _).alloc (Nat.le_refl _) _
  have e3 : (x2.alloc (.cells #[v] 22)).heap.size = w.heap.size + 3 := by simp [e2]
  generalize x2.alloc (.cells #[v] 22) = x3 at *
  have h4 := heap_alloc_new x3 (.cells #[.int .i64 i] 3)
  have b4 : Below x3.heap.size x3 (x3.alloc (.cells #[.int .i64 i] 3)) := (Below.refl _ _).alloc (Nat.le_refl _) _
  rw [hW0] at h4 b4
  rw [e1] at h2
  rw [e2] at h3
  rw [e3] at h4
  have q1 := (Same0.of_below b4).cells _ _ _ _ ((Same0.of_below b3).cells _ _ _ _ ((Same0.of_below b2).cells _ _ _ _ h1))
  have q2 := (Same0.of_below b4).cells _ _ _ _ ((Same0.of_below b3).cells _ _ _ _ h2)
  have q3 := (Same0.of_below b4).cells _ _ _ _ h3
  have bb : Below w.heap.size w W0 := ext_trans (ext_trans (ext_trans b1 b2) b3) b4
  have hI0 : PtI w v [] (.slice none 0 0) W0 := ⟨q1, q2, World.ownsRow_nil _ _ _ _, bb⟩
  have HS := Lib.hid hs
  have HF := Lib.hid hF
  clear hs hF q1 q2 h1 h2 h3 b1 b2 b3 b4 e1 e2 e3 hW0
  refine (wpIn_wide (n := 6)).1 ?_
  refine rangeB (B0 := w.heap.size) (hB0 := by omega) rfl (by decide) (gf := 286) (lb := #[.pointer (some ⟨w.heap.size + 3, 0, none⟩), .pointer (some ⟨w.heap.size + 2, 0, none⟩)]) rfl trivial (enters_of Tryz.func286 (by kernel_rfl) rfl)
    (encs := upE L) (Kp := fun W V => KpU w.heap.size 9 171 W V ∧ W.heap.size ≤ V.heap.size) (N := L.length) (T := 3)
    (fun l J W hW hJ hY h0 => ?iter)
    (fun h k => ⟨h.1.trans k.1, Nat.le_trans h.2 k.2⟩) (fun _ _ h => ⟨KpU.same0 h, h.size⟩) (fun _ => rfl)
    (PathI w v S L) (fun k W V ⟨vo, h⟩ ht => ⟨vo, h.turn ht⟩) ⟨_, hI0⟩ ?round ?done
  case iter =>
    have := up1_in (6 - 1) (by decide) l (w.heap.size + 3) (w.heap.size + 2) w.heap.size w.heap.size 9 171 (by decide) (by decide) S (i : Int) v w W J HF.out (by omega) (by omega) rfl (Nat.le_refl _) (by omega) (by omega) HS.out (Same0.trans (Same0.of_below bb) (Same0.of_below hW)) hJ
      (by rw [Int.toNat_natCast, HL.out]; exact hY) ((Same0.of_below hW).cells _ _ _ _ h4) ((Same0.of_below hW).cells _ _ _ _ q3) h0
    rw [Int.toNat_natCast, HL.out] at this
    exact this
  case done =>
    intro D W hD hI hDd
    obtain ⟨vo, h⟩ := hI
    have HLP := Lib.hid (show L ≠ [] by
      intro e
      have h2 := HSP.out.2
      rw [e] at h2
      have h2 : (i : Int) = -1 := h2
      omega)
    rw [List.take_of_length_le (Nat.le_refl _)] at h
    obtain ⟨g, cp, rfl, hH, hr⟩ := h.rev (by
      intro e
      exact HLP.out (List.map_eq_nil_iff.1 e))
    obtain ⟨co, fo⟩ := one_free h.bo
    have HR := Lib.hid hr
    have HD := Lib.hid (And.intro hD hDd)
    have HRV := Lib.hid (Tryz.slices_Reverse_string g 0 cp (L.map (nmS S)) W hH (by have := HLE.out; simp; omega))
    clear hr hD hDd hH h
    generalize hnn : L.map (nmS S) = nms at *
    have HNL := Lib.hid (show nms.length = L.length by rw [← hnn]; simp)
    have HNN := Lib.hid hnn
    clear hnn
    go_wp2_with fail
    refine HRV.out.mono ?_
    rintro e w3 ⟨rfl, q, rfl⟩
    obtain ⟨h3, h4⟩ := HR.out q
    have HD3 := Lib.hid (h4 D _ HD.out.2 rfl)
    have H3 := Lib.hid h3
    clear co fo h4 HR HRV
    obtain ⟨co, fo⟩ := one_free h3.bo
    clear h3
    generalize Sort.putRow Proofs.encStr (Sort.ahead W q) g 0 nms.reverse.toArray = W3 at *
    go_wp2_with fail
    refine ⟨by simp, .inl ⟨_, _, rfl, run_takeDeferred HD3.out, ?_⟩⟩
    have ho := ownsRow_putObj H3.out.o (.deferred none) HD3.out rfl
    rw [List.length_reverse] at ho
    refine ⟨.slice (some ⟨g, 0, none⟩) nms.length cp, by simp [results, Tryz.results203, go_sem], _, rfl, ?_, ?_⟩
    · rw [HNN.out, ← HNL.out]
      exact ho
    · exact H3.out.b.trans (belowK_b (w := W0) (by omega) _ D _ _ HD.out.1 HD3.out rfl rfl)
  case round =>
    intro l k W hlW ⟨vo, h⟩ hk
    obtain ⟨q0, q1', q2⟩ := HSP.out.1 k hk
    obtain ⟨m, hm2⟩ := Int.eq_ofNat_of_zero_le q0
    rw [hm2] at q1' q2
    rw [Int.toNat_natCast] at q2
    have hmS : m < S.length := by omega
    have HLD := Lib.hid (show (L.getD k 0 : Nat) = m by rw [List.getD, q2]; rfl)
    unfold upE
    rw [HLD.out]
    have HTK := Lib.hid (show (L.take (k + 1)).map (nmS S) = (L.take k).map (nmS S) ++ [nmS S m] by
      rw [List.take_add_one, q2]; simp)
    have HNL := Lib.hid (show ((L.take k).map (nmS S)).length = k by simp; omega)
    clear q0 q1' q2 hm2
    generalize (L.take k).map (nmS S) = nms at *
    subst hv
    have HI := Lib.hid h
    clear h
    gi_wp2
    refine ⟨KeepsFrom.refl _ _, ⟨KpU.below (Below.refl _ _), Nat.le_refl _⟩, ?_⟩
    intro W1 hs1 ht1
    have H2 := Lib.hid (HI.out.turn ht1)
    obtain ⟨ct, ft⟩ := one_free H2.out.bs
    obtain ⟨co, fo⟩ := one_free H2.out.bo
    obtain ⟨bS, oS, rfl, hcell⟩ := (HS.out.same0 (Same0.of_below H2.out.b)).scs hmS
    have hnm : nmS S m = (S[m]).1 := by simp [nmS, List.getD, hmS]
    have HSX := HS
    obtain ⟨nm, hnx⟩ : ∃ nm, (S[m]).1 = nm := ⟨_, rfl⟩
    have d0 : W1.cell? ⟨bS, oS + m * 3, none⟩ = some (.string (bsB nm)) := hcell 0 _ (by rw [← hnx]; rfl)
    rw [hnm, hnx] at HTK
    have HSC := Lib.hid (fun (X : World) (hX : Same0 w X) => (show X.cell? ⟨bS, oS + m * 3, none⟩ = some (.string (bsB nm)) by
      obtain ⟨b', o', e', hc'⟩ := (HSX.out.same0 hX).scs hmS
      injection e' with e'
      injection e' with e1 e2 _
      subst e1 e2
      exact hc' 0 _ (by rw [← hnx]; rfl)))
    clear hcell hs1 ht1 HI hnm hnx
    obtain ⟨ao, capo, rfl, -, -⟩ := (SlR.of_own H2.out.o).shape
    have hal : Below W1.heap.size W1 (W1.drew.alloc (.cells #[.string (bsB nm)] 9)) := ((Below.refl _ _).drew).alloc (Nat.le_refl _) _
    have HA := Lib.hid (H2.out.same hal)
    have HKA := Lib.hid (KpU.below (N := w.heap.size) (T1 := 9) (T2 := 171) hal)
    have HZA := Lib.hid hal.size
    have HOA := Lib.hid ((KeepsOthers.drew W1).trans (KeepsOthers.alloc _ (.cells #[.string (bsB nm)] 9)))
    have y1 := (one_free HA.out.bs).1
    have y2 := HSC.out _ (Same0.of_below HA.out.b)
    have hbz := H2.out.b.size
    have hnl : nms.length ≤ 1000 := by have := HNL.out; have := HLE.out; omega
    clear hal
    gi_wp2
    refine wpIn_mono (Q := fun e _ W' => e = .normal ∧ ∃ vo, PtI w (.slice (some ⟨bS, oS, none⟩) S.length cap) (nms ++ [nm]) vo W' ∧ KpU w.heap.size 9 171 W1 W' ∧ W1.heap.size ≤ W'.heap.size ∧ KeepsOthers W1 W') ?_ ?_
    rotate_left
    · rintro e a' W' ⟨rfl, vo, hp, hk1, hk2, hk3⟩
      gi_wp2
      refine ⟨hk3.from _, ?_⟩
      unfold PathI
      rw [HTK.out]
      exact ⟨vo, hp⟩
    refine wpIn_region_any (by kernel_rfl) ?_
    refine anyIn_of_any (noDefer (by kernel_rfl)) ?_ _ _ _ _ ?_
    · rintro ⟨a0, w0, h0, -⟩
      cases h0
    refine wpAny_of_held (S := fun w' => w'.cell? ⟨w.heap.size, 0, none⟩ = some (.slice (some ⟨bS, oS, none⟩) S.length cap) ∧ w'.cell? ⟨bS, oS + m * 3, none⟩ = some (.string (bsB nm))) _ _ _ _ ?_
    · have hHeld : W1.drew.cell? ⟨w.heap.size, 0, none⟩ = some (.slice (some ⟨bS, oS, none⟩) S.length cap) ∧ W1.drew.cell? ⟨bS, oS + m * 3, none⟩ = some (.string (bsB nm)) := ⟨ct, d0⟩
      refine wpAnyH_take (i := 1) (v := ?_) rfl (by kernel_rfl) (by kernel_rfl) (by kernel_rfl) (fun _ _ _ h => h) (Or.inl ⟨by rfl, ?_⟩) hHeld ?_
      rotate_left
      · intro w hSw
        (try dsimp only at hSw)
        go_simp
        all_goals with_reducible rfl
      simp only [Act.put, List.getElem_toArray, List.getElem_cons_succ, List.getElem_cons_zero, List.setIfInBounds_toArray, List.set_cons_zero, List.set_cons_succ]
      refine wpAnyH_take (i := 2) (v := ?_) rfl (by kernel_rfl) (by kernel_rfl) (by kernel_rfl) (fun _ _ _ h => h) (Or.inl ⟨by rfl, ?_⟩) hHeld ?_
      rotate_left
      · intro w hSw
        (try dsimp only at hSw)
        go_simp
        all_goals with_reducible rfl
      simp only [Act.put, List.getElem_toArray, List.getElem_cons_succ, List.getElem_cons_zero, List.setIfInBounds_toArray, List.set_cons_zero, List.set_cons_succ]
      refine wpAnyH_take (i := 3) (v := ?_) rfl (by kernel_rfl) (by kernel_rfl) (by kernel_rfl) (fun _ _ _ h => h) (Or.inl ⟨by rfl, ?_⟩) hHeld ?_
      rotate_left
      · intro w hSw
        (try dsimp only at hSw)
        go_simp
        all_goals with_reducible rfl
      simp only [Act.put, List.getElem_toArray, List.getElem_cons_succ, List.getElem_cons_zero, List.setIfInBounds_toArray, List.set_cons_zero, List.set_cons_succ]
      refine wpAnyH_take (i := 4) (v := ?_) rfl (by kernel_rfl) (by kernel_rfl) (by kernel_rfl) (fun _ _ _ h => h) (Or.inl ⟨by rfl, ?_⟩) hHeld ?_
      rotate_left
      · intro w hSw
        (try dsimp only at hSw)
        go_simp
        all_goals with_reducible rfl
      simp only [Act.put, List.getElem_toArray, List.getElem_cons_succ, List.getElem_cons_zero, List.setIfInBounds_toArray, List.set_cons_zero, List.set_cons_succ]
      refine wpAnyH_take (i := 5) (v := ?_) rfl (by kernel_rfl) (by kernel_rfl) (by kernel_rfl) (fun _ _ _ h => h) (Or.inl ⟨by rfl, ?_⟩) hHeld ?_
      rotate_left
      · intro w hSw
        (try dsimp only at hSw)
        go_simp
        all_goals with_reducible rfl
      simp only [Act.put, List.getElem_toArray, List.getElem_cons_succ, List.getElem_cons_zero, List.setIfInBounds_toArray, List.set_cons_zero, List.set_cons_succ]
      refine wpAnyH_ready (rs := [0, 6]) (by kernel_rfl) (by simp) ?_
      refine AllReadyH.cons (o := _) rfl (fun K hK => ?_) (AllReadyH.cons (o := _) rfl (fun K hK => ?_) AllReadyH.nil)
      · go_simp
        refine hK.out _ _ ⟨ct, d0⟩ (fun hHeld => ?_)
        clear hK
        try simp only [Act.put, List.getElem_toArray, List.getElem_cons_succ, List.getElem_cons_zero, List.setIfInBounds_toArray, List.set_cons_zero, List.set_cons_succ]
        refine wpAnyH_ready (rs := [6]) (by kernel_rfl) (by simp) ?_
        refine AllReadyH.cons (o := _) rfl (fun K hK => ?_) AllReadyH.nil
        go_simp
        refine hK.out _ _ ⟨y1, y2⟩ (fun hHeld => ?_)
        clear hK
        try simp only [Act.put, List.getElem_toArray, List.getElem_cons_succ, List.getElem_cons_zero, List.setIfInBounds_toArray, List.set_cons_zero, List.set_cons_succ]
        refine wpAnyH_ready (rs := [7]) (by kernel_rfl) (by simp) ?_
        refine AllReadyH.cons (o := _) rfl (fun K hK => ?_) AllReadyH.nil
        refine step_append_lies _ (by rfl) _ _ _ (by rfl) w.heap.size 9 i0 _ 1 16 Tryz.underlying171 hi0 iz0 iz1 iz2 rfl (by omega) (.slice ao nms.length capo) nms.length (strs nms) (by rfl) (by exact HA.out.o) ⟨W1.heap.size, 0, none⟩ 1 1 [.string (bsB nm)] (by rfl) (by rfl) (World.news_of_block (cs := #[.string (bsB nm)]) (t := 9) (fr := (0, 0)) (by exact heap_alloc_new _ _)) (by simp [Value.oneCell']) (by omega) (by unfold maxLen; omega) (by omega) (by simp; omega) (W1.heap.size + 1) (by simp) ?_
        intro gg cap9 w9 ho9 hg9 hat hlt9
        obtain ⟨P1, P2, P3, P4, P5, P6, P10⟩ := HA.out.add ho9 hg9
        have P7 := HSC.out w9 (HA.out.old hg9)
        have HP9 := Lib.hid P1
        have HK9 := Lib.hid (And.intro P5 P6)
        have HO9 := Lib.hid P10
        clear ho9 hg9 hat hlt9 P1 P5 P6 P10
        refine hK.out _ _ ⟨P2, P7⟩ (fun hHeld => ?_)
        clear hK
        try simp only [Act.put, List.getElem_toArray, List.getElem_cons_succ, List.getElem_cons_zero, List.setIfInBounds_toArray, List.set_cons_zero, List.set_cons_succ]
        refine wpAnyH_ready (rs := [8]) (by kernel_rfl) (by simp) ?_
        refine AllReadyH.cons (o := _) rfl (fun K hK => ?_) AllReadyH.nil
        go_simp
        have P8 := And.intro (one_free HP9.out.bs).1 (HSC.out _ (Same0.of_below HP9.out.b))
        refine hK.out _ _ P8 (fun hHeld => ?_)
        clear hK
        try simp only [Act.put, List.getElem_toArray, List.getElem_cons_succ, List.getElem_cons_zero, List.setIfInBounds_toArray, List.set_cons_zero, List.set_cons_succ]
        refine wpAnyH_done (by kernel_rfl) ?_ _
        exact ⟨rfl, _, HP9.out, HKA.out.trans HK9.out.1, Nat.le_trans HZA.out HK9.out.2, HOA.out.trans HO9.out⟩
      · go_simp
        refine hK.out _ _ ⟨y1, y2⟩ (fun hHeld => ?_)
        clear hK
        try simp only [Act.put, List.getElem_toArray, List.getElem_cons_succ, List.getElem_cons_zero, List.setIfInBounds_toArray, List.set_cons_zero, List.set_cons_succ]
        have a8 := cell_alloc co (.cells #[.string (bsB nm)] 9)
        refine wpAnyH_ready (rs := [0]) (by kernel_rfl) (by simp) ?_
        refine AllReadyH.cons (o := _) rfl (fun K hK => ?_) AllReadyH.nil
        go_simp
        refine hK.out _ _ ⟨y1, y2⟩ (fun hHeld => ?_)
        clear hK
        try simp only [Act.put, List.getElem_toArray, List.getElem_cons_succ, List.getElem_cons_zero, List.setIfInBounds_toArray, List.set_cons_zero, List.set_cons_succ]
        clear a8
        refine wpAnyH_ready (rs := [7]) (by kernel_rfl) (by simp) ?_
        refine AllReadyH.cons (o := _) rfl (fun K hK => ?_) AllReadyH.nil
        refine step_append_lies _ (by rfl) _ _ _ (by rfl) w.heap.size 9 i0 _ 1 16 Tryz.underlying171 hi0 iz0 iz1 iz2 rfl (by omega) (.slice ao nms.length capo) nms.length (strs nms) (by rfl) (by exact HA.out.o) ⟨W1.heap.size, 0, none⟩ 1 1 [.string (bsB nm)] (by rfl) (by rfl) (World.news_of_block (cs := #[.string (bsB nm)]) (t := 9) (fr := (0, 0)) (by exact heap_alloc_new _ _)) (by simp [Value.oneCell']) (by omega) (by unfold maxLen; omega) (by omega) (by simp; omega) (W1.heap.size + 1) (by simp) ?_
        intro gg cap9 w9 ho9 hg9 hat hlt9
        obtain ⟨P1, P2, P3, P4, P5, P6, P10⟩ := HA.out.add ho9 hg9
        have P7 := HSC.out w9 (HA.out.old hg9)
        have HP9 := Lib.hid P1
        have HK9 := Lib.hid (And.intro P5 P6)
        have HO9 := Lib.hid P10
        clear ho9 hg9 hat hlt9 P1 P5 P6 P10
        refine hK.out _ _ ⟨P2, P7⟩ (fun hHeld => ?_)
        clear hK
        try simp only [Act.put, List.getElem_toArray, List.getElem_cons_succ, List.getElem_cons_zero, List.setIfInBounds_toArray, List.set_cons_zero, List.set_cons_succ]
        refine wpAnyH_ready (rs := [8]) (by kernel_rfl) (by simp) ?_
        refine AllReadyH.cons (o := _) rfl (fun K hK => ?_) AllReadyH.nil
        go_simp
        have P8 := And.intro (one_free HP9.out.bs).1 (HSC.out _ (Same0.of_below HP9.out.b))
        refine hK.out _ _ P8 (fun hHeld => ?_)
        clear hK
        try simp only [Act.put, List.getElem_toArray, List.getElem_cons_succ, List.getElem_cons_zero, List.setIfInBounds_toArray, List.set_cons_zero, List.set_cons_succ]
        refine wpAnyH_done (by kernel_rfl) ?_ _
        exact ⟨rfl, _, HP9.out, HKA.out.trans HK9.out.1, Nat.le_trans HZA.out HK9.out.2, HOA.out.trans HO9.out⟩
end Go.Proofs.YtbiadennhnokhaaGreatDoor
/- hierarchy: the iterator over the scopes of declarations in preorder. -/
namespace Go.Proofs.YtbiadennhnokhaaGreatDoor
open Go.RowKit Go.Shelf
attribute [local go_sem] Oper.semAt_some
set_option linter.unusedSimpArgs false

/-- what is still to come below p, from the i-th scope on -/
def preFrom (par : Nat → Int) (n f : Nat) (p : Int) (i : Nat) : List Nat := ((List.range n).drop i).flatMap fun j => if par j = p then j :: pre par n f j else []
theorem preFrom_zero (par : Nat → Int) (n f : Nat) (p : Int) : preFrom par n f p 0 = pre par n (f + 1) p := by rw [pre_succ]; rfl
theorem preFrom_step {par : Nat → Int} {n f : Nat} {p : Int} {i : Nat} (h : i < n) : preFrom par n f p i = (if par i = p then i :: pre par n f i else []) ++ preFrom par n f p (i + 1) := by
  unfold preFrom
  rw [List.drop_eq_getElem_cons (by simpa using h), List.flatMap_cons]
  simp
theorem preFrom_end {par : Nat → Int} {n f : Nat} {p : Int} {i : Nat} (h : n ≤ i) : preFrom par n f p i = [] := by
  unfold preFrom
  rw [List.drop_of_length_le (by simpa using h)]
  rfl
theorem preFrom_start {par : Nat → Int} {n f : Nat} {p : Int} (hF : Fst par n) : ∀ i : Nat, (i : Int) ≤ max p 0 → preFrom par n f p i = pre par n (f + 1) p
  | 0, _ => preFrom_zero par n f p
  | i + 1, h => by
    rw [← preFrom_start hF i (by omega)]
    by_cases hi : i < n
    · rw [preFrom_step hi, if_neg, List.nil_append]
      have := (hF i hi).2
      omega
    · rw [preFrom_end (by omega), preFrom_end (by omega)]
theorem undef_bool {b : Bool} (h : some undef = some (Value.bool b)) : False := by
  unfold undef at h
  cases h
def ordE (L : List Nat) (k : Nat) : Array Value := #[.int .i64 ((L.getD k 0 : Nat) : Int)]
/-- what the body of a range over scopes keeps: the old cells -/
def KpO (N : Nat) (W V : World) : Prop := W.heap.size ≤ V.heap.size ∧ ∀ (b : Nat) (C : Array Value) (T : TypeId) (fr : Nat × Nat), b < N → W.heap[b]? = some (.cells C T fr) → V.heap[b]? = some (.cells C T fr)
theorem KpO.trans {N : Nat} {A B C : World} (h : KpO N A B) (k : KpO N B C) : KpO N A C := ⟨Nat.le_trans h.1 k.1, fun b D T fr hb h1 => k.2 b D T fr hb (h.2 b D T fr hb h1)⟩
theorem KpO.same0 {N : Nat} {W V : World} (h : Same0 W V) : KpO N W V := ⟨h.size, fun b C T fr _ hb => h.cells b C T fr hb⟩
theorem KpO.old {w0 W V : World} (h : Same0 w0 W) (k : KpO w0.heap.size W V) : Same0 w0 V :=
  ⟨Nat.le_trans h.size k.1, fun b C T fr hb => k.2 b C T fr (Array.getElem?_eq_some_iff.1 hb).1 (h.cells _ _ _ _ hb)⟩
def WkP (n : Nat) (lp : Nat) (v : Value) (w0 : World) (J : Nat → World → Prop) (p : Int) (k m : Nat) (W : World) : Prop :=
  CallsIn Fence.wide n Tryz.prog 219 #[v, .int .i64 p, .func (.yield lp) #[] #[]] W fun e W' => e = .returned (.bool true) ∧ J (k + m) W' ∧ Same0 w0 W'
set_option maxRecDepth 100000 in
set_option maxHeartbeats 2000000 in
theorem walk_step (n : Nat) (hn : 2 ≤ n) (lp : Nat) (S : List Sc) (v : Value) (w0 : World) (J : Nat → World → Prop) (ord : List Nat)
    (hF : Fst (parS S) S.length) (hl : S.length ≤ 1000) (hs : SlR w0 v S.length (scs S))
    (hY : ∀ k W1, J k W1 → k < ord.length → YieldAt Fence.wide (n - 1) Tryz.prog lp (ordE ord k) W1 fun e W' => e = .returned (.bool true) ∧ J (k + 1) W' ∧ KpO w0.heap.size W1 W')
    (f : Nat) (p : Int) (A B : List Nat) (W : World) (hp : -1 ≤ p) (hp2 : p ≤ 1000) (ho : ord = A ++ pre (parS S) S.length (f + 1) p ++ B) (h0 : J A.length W) (h00 : Same0 w0 W)
    (ih : ∀ (i : Nat) (A' B' : List Nat) (W' : World), p < (i : Int) → i < S.length → ord = A' ++ pre (parS S) S.length f i ++ B' → J A'.length W' → Same0 w0 W' → WkP n lp v w0 J i A'.length (pre (parS S) S.length f i).length W') :
    WkP n lp v w0 J p A.length (pre (parS S) S.length (f + 1) p).length W := by
  have hro : Fence.wide.round = none := rfl
  obtain ⟨a, cap, rfl, hcp, hm⟩ := hs.shape
  unfold WkP
  obtain ⟨i0, hi0⟩ : ∃ i0 : Nat, (i0 : Int) = max p 0 := ⟨(max p 0).toNat, by omega⟩
  have HST := Lib.hid (preFrom_start (n := S.length) (f := f) (p := p) hF i0 (by omega))
  have HS := Lib.hid hs
  have HF := Lib.hid hF
  have HY := Lib.hid hY
  have HO := Lib.hid ho
  have HI := Lib.hid ih
  have H00 := Lib.hid h00
  generalize hpl : pre (parS S) S.length (f + 1) p = PL at *
  clear hs hF hY ho ih hm hcp h00
  refine callsIn_of_wp Tryz.func219 rfl trivial ?_ hro
  simp only [Tryz.ntmps219, List.size_toArray, List.length_cons, List.length_nil, Nat.reduceAdd, Nat.reduceSub, Array.replicate_succ, Array.replicate_zero, List.push_toArray, List.append_toArray, List.nil_append, List.cons_append]
  have HI0 := Lib.hid hi0
  have HPL := Lib.hid hpl
  clear hpl
  have HB0 := Lib.hid (show p ≤ (i0 : Int) ∧ i0 ≤ 1000 by omega)
  clear hi0
  gi_wp2
  gi_loopw [7] (fun i wr => ∃ (j : Nat) (A' : List Nat), i = .int .i64 j ∧ p ≤ (j : Int) ∧ j ≤ 1000 ∧ A' ++ preFrom (parS S) S.length f p j = A ++ PL ∧ J A'.length wr ∧ Same0 w0 wr) (fun i _ => S.length - (intOf i).toNat)
  case atStart => exact ⟨i0, A, by rw [HI0.out], HB0.out.1, HB0.out.2, by rw [HST.out], h0, H00.out⟩
  case round =>
    obtain ⟨j, A', rfl, hpj, hj, hA, hjk, hsa⟩ := hrel
    have HA := Lib.hid hA
    have HJK := Lib.hid hjk
    have HSA := Lib.hid hsa
    clear hA hjk hsa h0
    by_cases hlt : j < S.length
    · obtain ⟨b, o, rfl, hcell⟩ := (HS.out.same0 HSA.out).scs hlt
      have hps : parS S j = S[j].2.2 := by simp [parS, List.getD, hlt]
      have HPF := Lib.hid (preFrom_step (par := parS S) (f := f) (p := p) hlt)
      have HFJ := Lib.hid (HF.out j hlt)
      rw [hps] at HPF HFJ
      generalize S[j] = x at hcell HPF HFJ
      obtain ⟨nm, ty, pa⟩ := x
      have d2 : wr.cell? ⟨b, o + j * 3 + 2, none⟩ = some (.int .i64 pa) := hcell 2 _ rfl
      clear hcell hps
      dsimp only at HPF HFJ
      have h1n : 1 ≤ n := by omega
      by_cases hpa : pa = p
      · subst hpa
        rw [if_pos rfl] at HPF
        have HA2 := Lib.hid (show ord = A' ++ j :: (pre (parS S) S.length f j ++ (preFrom (parS S) S.length f pa (j + 1) ++ B)) by
          rw [HO.out, ← HA.out, HPF.out]; simp)
        have HEN := Lib.hid (show ordE ord A'.length = #[.int .i64 (j : Int)] by
          unfold ordE
          rw [HA2.out, List.getD, List.getElem?_append_right (Nat.le_refl _), Nat.sub_self]
          rfl)
        obtain ⟨fn, tmps, assign, body, hy, hR⟩ := HY.out A'.length wr HJK.out (by rw [HA2.out]; simp)
        have HR := Lib.hid hR
        rw [HEN.out] at hy
        have HIH := Lib.hid (fun W' h1 h2 => HI.out j (A' ++ [j]) (preFrom (parS S) S.length f pa (j + 1) ++ B) W' (by have := HFJ.out.2; omega) hlt (by rw [HA2.out]; simp) h1 h2)
        have HNX := Lib.hid (show (A' ++ j :: pre (parS S) S.length f j) ++ preFrom (parS S) S.length f pa (j + 1) = A ++ PL by
          rw [← HA.out, HPF.out]; simp)
        clear hR
        gi_wp2
        refine HR.out.mono ?_
        rintro e W3 ⟨rfl, hj3, hk3⟩
        have HJ3 := Lib.hid hj3
        have HS3 := Lib.hid (KpO.old HSA.out hk3)
        clear hj3 hk3 hy d2
        gi_wp2
        refine ⟨trivial, ?_⟩
        have HW := Lib.hid (HIH.out W3 (by rw [List.length_append]; exact HJ3.out) HS3.out)
        unfold WkP at HW
        refine (callsIn_wide.2 (callsIn_wide.1 HW.out)).mono ?_
        rintro e W4 ⟨rfl, hj4, hs4⟩
        have HJ4 := Lib.hid (show J (A' ++ j :: pre (parS S) S.length f j).length W4 by
          rw [List.length_append, List.length_singleton] at hj4
          rw [List.length_append, List.length_cons, show A'.length + ((pre (parS S) S.length f j).length + 1) = A'.length + 1 + (pre (parS S) S.length f j).length by omega]
          exact hj4)
        have HS4 := Lib.hid hs4
        clear hj4 hs4
        gi_wp2
        go_roundw
        case rel => exact ⟨j + 1, _, by go_num, by omega, by omega, HNX.out, HJ4.out, HS4.out⟩
        case measure => simp [intOf]; omega
      · have hne : (pa == p) = false := by simpa using hpa
        rw [if_neg hpa, List.nil_append] at HPF
        have HNX := Lib.hid (show A' ++ preFrom (parS S) S.length f p (j + 1) = A ++ PL by rw [← HPF.out]; exact HA.out)
        clear hpa
        gi_wp2
        refine ⟨fun _ _ => trivial, ?_⟩
        gi_wp2
        all_goals (try exact (undef_bool (by assumption)).elim)
        refine ⟨trivial, ?_⟩
        gi_wp2
        go_roundw
        case rel => exact ⟨j + 1, A', by go_num, by omega, by omega, HNX.out, HJK.out, HSA.out⟩
        case measure => simp [intOf]; omega
    · have HE := Lib.hid (show A'.length = A.length + PL.length by
        have := HA.out
        rw [preFrom_end (by omega), List.append_nil] at this
        rw [this, List.length_append])
      gi_wp2
      go_ret
      exact ⟨rfl, HE.out ▸ HJK.out, HSA.out⟩
end Go.Proofs.YtbiadennhnokhaaGreatDoor
/- hierarchy: the iterator over the scopes of declarations in preorder, whole. -/
namespace Go.Proofs.YtbiadennhnokhaaGreatDoor
open Go.RowKit Go.Shelf
attribute [local go_sem] Oper.semAt_some
set_option linter.unusedSimpArgs false

theorem walk_in (n : Nat) (hn : 2 ≤ n) (lp : Nat) (S : List Sc) (v : Value) (w0 : World) (J : Nat → World → Prop) (ord : List Nat)
    (hF : Fst (parS S) S.length) (hl : S.length ≤ 1000) (hs : SlR w0 v S.length (scs S))
    (hY : ∀ k W1, J k W1 → k < ord.length → YieldAt Fence.wide (n - 1) Tryz.prog lp (ordE ord k) W1 fun e W' => e = .returned (.bool true) ∧ J (k + 1) W' ∧ KpO w0.heap.size W1 W') :
    ∀ (f : Nat) (p : Int) (A B : List Nat) (W : World), -1 ≤ p → p ≤ 1000 → (S.length : Int) ≤ (f : Int) + p + 1 → ord = A ++ pre (parS S) S.length (f + 1) p ++ B → J A.length W → Same0 w0 W →
      WkP n lp v w0 J p A.length (pre (parS S) S.length (f + 1) p).length W
  | 0, p, A, B, W, h1, h2, h3, ho, h0, h00 => walk_step n hn lp S v w0 J ord hF hl hs hY 0 p A B W h1 h2 ho h0 h00 (fun i _ _ _ hi hi2 _ _ _ => by omega)
  | f + 1, p, A, B, W, h1, h2, h3, ho, h0, h00 => walk_step n hn lp S v w0 J ord hF hl hs hY (f + 1) p A B W h1 h2 ho h0 h00 (fun i A' B' W' hi hi2 ho' hj hs' =>
      walk_in n hn lp S v w0 J ord hF hl hs hY f (i : Int) A' B' W' (by omega) (by omega) (by omega) ho' hj hs')
set_option maxRecDepth 100000 in
set_option maxHeartbeats 1000000 in
theorem pre1_in (n : Nat) (hn : 2 ≤ n) (lp bs bp : Nat) (S : List Sc) (v : Value) (w0 W : World) (J : Nat → World → Prop)
    (hF : Fst (parS S) S.length) (hl : S.length ≤ 999) (hs : SlR w0 v S.length (scs S)) (h0w : Same0 w0 W)
    (hY : ∀ k W1, J k W1 → k < (preS S).length → YieldAt Fence.wide (n - 1) Tryz.prog lp (ordE (preS S) k) W1 fun e W' => e = .returned (.bool true) ∧ J (k + 1) W' ∧ KpO w0.heap.size W1 W')
    (hcs : W.heap[bs]? = some (.cells #[v] 22 (0, 0))) (hcp : W.heap[bp]? = some (.cells #[.int .i64 (-1)] 3 (0, 0))) (h0 : J 0 W) :
    CallsIn Fence.wide n Tryz.prog 218 #[.func (.yield lp) #[] #[], .pointer (some ⟨bs, 0, none⟩), .pointer (some ⟨bp, 0, none⟩)] W fun e W' => (∃ v, e = .returned v) ∧ J (preS S).length W' := by
  have hro : Fence.wide.round = none := rfl
  obtain ⟨a, cap, rfl, -, -⟩ := hs.shape
  have HW := Lib.hid (walk_in n hn lp S _ w0 J (preS S) hF (by omega) hs hY S.length (-1) [] [] W (by omega) (by omega) (by omega) (by simp [preS]) h0 h0w)
  obtain ⟨cs, -⟩ := one_free hcs
  obtain ⟨cp, -⟩ := one_free hcp
  unfold WkP at HW
  clear hs hY h0 h0w hcs hcp hF
  refine callsIn_of_wp Tryz.func218 rfl trivial ?_ hro
  simp only [Tryz.ntmps218, List.size_toArray, List.length_cons, List.length_nil, Nat.reduceAdd, Nat.reduceSub, Array.replicate_succ, Array.replicate_zero, List.push_toArray, List.append_toArray, List.nil_append, List.cons_append]
  have h1n : 1 ≤ n := by omega
  gi_wp2
  refine ⟨trivial, ?_⟩
  refine (callsIn_wide.2 (callsIn_wide.1 HW.out)).mono ?_
  rintro e W4 ⟨rfl, hj4, -⟩
  have HJ := Lib.hid (show J (preS S).length W4 by
    have : J (0 + (preS S).length) W4 := hj4
    rwa [Nat.zero_add] at this)
  clear hj4
  gi_wp2
  go_end0
  exact ⟨⟨_, rfl⟩, HJ.out⟩
theorem hi_preorder (a : Option Addr) (m cap : Nat) (i : Int) (w : World) :
    Calls Tryz.prog 163 #[.slice a m cap, .int .i64 i] w fun e w' => e = .returned (.func (.func 218) #[] #[.pointer (some ⟨w.heap.size, 0, none⟩), .pointer (some ⟨w.heap.size + 1, 0, none⟩)]) ∧ w' = (w.alloc (.cells #[.slice a m cap] 22)).alloc (.cells #[.int .i64 i] 3) := by
  go_enter Tryz.func163, Tryz.ntmps163
  go_wp2_with fail
  go_ret
  exact ⟨rfl, rfl⟩
end Go.Proofs.YtbiadennhnokhaaGreatDoor
