import Derived.Test.YtimeilkelnljnaaGreatDoorRest
import Derived.Test.YtimeilkelnljnaaGreatDoorAf1
namespace Go.Proofs.YtimeilkelnljnaaGreatDoor
open Go.RowKit

/-! pick, example, awake -/
def pickL (L : List (Sg × Value)) (st : List Nat) : List (Sg × Value) := st.map fun k => L.getD k ((0, 0, []), .slice none 0 0)
theorem pickL_fst {L : List (Sg × Value)} {st : List Nat} (h : ∀ k ∈ st, k < L.length) : (pickL L st).map Prod.fst = st.map (sgAt (L.map Prod.fst)) := by
  unfold pickL
  rw [List.map_map]
  apply List.map_congr_left
  intro k hk
  have := h k hk
  rw [sgAt_lt (by simpa using this)]
  simp [List.getD, this]
theorem pickL_len (L : List (Sg × Value)) (st : List Nat) : (pickL L st).length = st.length := by simp [pickL]
theorem pickL_mem {L : List (Sg × Value)} {st : List Nat} (h : ∀ k ∈ st, k < L.length) : ∀ x ∈ pickL L st, x ∈ L := by
  intro x hx
  obtain ⟨k, hk, rfl⟩ := List.mem_map.1 hx
  have := h k hk
  simp [List.getD, this]

set_option maxHeartbeats 1600000 in
set_option maxRecDepth 100000 in
theorem law_pick (v v2 : Value) (L : List (Sg × Value)) (st : List Nat) (w : World) (hs : Sigs w v L) (ht : SlR w v2 st.length (nats st)) (hin : ∀ k ∈ st, k < L.length) (hl : st.length ≤ 1000) :
    Calls Tryz.prog 26 #[v, v2] w fun e w' => ∃ v', e = .returned (.tuple #[v', .bool true]) ∧ w'.ownsRow w.heap.size 37 3 v' (pickL L st).length (sgs (pickL L st)) ∧ Below w.heap.size w w' := by
  obtain ⟨i0, hi, iz0, iz1, iz2⟩ := info_parts (P := Tryz.prog) sg_info
  obtain ⟨a, cap, rfl, hc, hm⟩ := hs.s.shape
  obtain ⟨a2, cap2, rfl, hc2, hm2⟩ := ht.shape
  have HS := Lib.hid hs
  have HT := Lib.hid ht
  have HIN := Lib.hid hin
  clear hs ht hin hm hm2
  go_enter Tryz.func26, Tryz.ntmps26
  go_wp2_with fail
  go_loopw [6, 11] (fun o_ i wr => ∃ (j : Nat), j ≤ st.length ∧ i = .int .i64 j ∧ wr.ownsRow w.heap.size 37 3 o_ j (sgs (pickL L (st.take j))) ∧ Below w.heap.size w wr) (fun _ i _ => st.length - (intOf i).toNat)
  case atStart => exact ⟨0, Nat.zero_le _, rfl, World.ownsRow_nil _ _ _ _, Below.refl _ _⟩
  case round =>
    obtain ⟨j, hj, rfl, ho, hb⟩ := hrel
    obtain ⟨ao, co, rfl, -, -⟩ := (SlR.of_own ho).shape
    have HO := Lib.hid ho
    have HB := Lib.hid hb
    clear ho hb
    by_cases hlt : j < st.length
    · obtain ⟨bs, os, c', hv, -, -, hcell⟩ := (HT.out.below HB.out).at (by omega)
      injection hv with e1 e2 e3
      subst e1
      clear e2 e3
      obtain ⟨kk, hkk⟩ : ∃ kk, st[j] = kk := ⟨_, rfl⟩
      have hki : kk < L.length := hkk ▸ HIN.out st[j] (List.getElem_mem hlt)
      have hkc := hcell j (.int .i64 (kk : Int)) (by simp [nats, hlt, hkk])
      obtain ⟨b, o, rfl, y0, y1, y2, hd⟩ := (HS.out.below HB.out).at hki
      have HP := Lib.hid (show sgs (pickL L (st.take (j + 1))) = sgs (pickL L (st.take j)) ++ [.int .i64 L[kk].1.1, .int .i64 L[kk].1.2.1, L[kk].2] by
        rw [List.take_succ_eq_append_getElem hlt, hkk]
        unfold pickL
        rw [List.map_append, sgs_app]
        simp [sgs, sgC, List.getD, hki])
      generalize L[kk] = x at y0 y1 y2 hd HP
      obtain ⟨⟨xk, xn, xl⟩, xv⟩ := x
      dsimp only at y0 y1 y2 hd HP
      obtain ⟨xa, xc, rfl, -, -⟩ := hd.shape
      have hk0 : decide ((kk : Int) < 0) = false := by rw [decide_eq_false_iff_not]; omega
      have hk1 : decide ((L.length : Int) ≤ (kk : Int)) = false := by rw [decide_eq_false_iff_not]; omega
      have HC := Lib.hid (World.news_of_block (w := wr.alloc (.cells #[.int .i64 xk, .int .i64 xn, .slice xa xl.length xc] 37)) (cs := #[.int .i64 xk, .int .i64 xn, .slice xa xl.length xc]) (t := 37) (fr := (0, 0)) (by exact heap_alloc_new wr _))
      have hszb := HB.out.size
      clear hcell hd
      go_wp2_with (at_builtin; refine wpList_append_own _ rfl _ _ 22 rfl w.heap.size 37 i0 (.agg #[.int .i64 0, .int .i64 0, .slice none 0 0]) 3 40 Tryz.underlying22 hi iz0 iz1 iz2 rfl (by decide) _ _ _ rfl (World.ownsRow.alloc (by exact HO.out) _) ⟨wr.heap.size, 0, none⟩ 1 1 [.int .i64 xk, .int .i64 xn, .slice xa xl.length xc] rfl rfl HC.out (by simp [Value.oneCell']) (by unfold maxLen; omega) (by omega) (by simp; omega) ?_)
      intro v6 w6 ho6 hg6 _
      have HO6 := Lib.hid ho6
      have HB6 := Lib.hid ((HB.out.alloc HB.out.size (.cells #[.int .i64 xk, .int .i64 xn, .slice xa xl.length xc] 37)).grown hg6 (by simp; omega) (fun q hq => (HO.out.lt q hq).1))
      clear ho6 hg6
      go_wp2_with fail
      go_roundw
      case rel => exact ⟨j + 1, by omega, by go_num, by rw [HP.out]; exact HO6.out, HB6.out⟩
      case measure => simp [intOf]; omega
    · obtain rfl : j = st.length := by omega
      have HO2 := Lib.hid (show wr.ownsRow w.heap.size 37 3 (.slice ao st.length co) (pickL L st).length (sgs (pickL L st)) by have := HO.out; rw [List.take_length] at this; rw [pickL_len]; exact this)
      go_wp2_with fail
      refine bodyPost_ret (v := .tuple #[.slice ao st.length co, .bool true]) (by simp [results, Tryz.results26, go_sem]) rfl ?_
      exact ⟨_, rfl, HO2.out, HB.out⟩

def exS : List Sg := [(0, 2, [(1, ⟨#[48, 49]⟩), (3, ⟨#[49, 49]⟩)]), (0, 1, [(1, ⟨#[48]⟩), (3, ⟨#[49]⟩)]), (0, 1, [(1, ⟨#[49]⟩), (3, ⟨#[48]⟩)])]
def exD : List Dv := [(0, 0, false), (0, 1, false), (0, 1, true)]
theorem ex_ord : ordF exS = [0, 1, 2] := by
  unfold ordF
  rw [List.mergeSort_of_pairwise]
  · rfl
  · decide
theorem ex_run : runF exS [0, 1, 2] = ([0], exD) := by kernel_rfl
theorem ex_all : exS.all svS = true := by kernel_rfl
theorem ex_find : findR exS = ([0], exD) := by
  have hk : storedR exS = [0] := by
    unfold storedR keptF
    rw [ex_ord, ex_run]
    simp
  unfold findR
  rw [if_pos ex_all, hk]
  refine Prod.ext rfl ?_
  unfold dersR
  rw [ex_ord, ex_run, hk]
  rfl
theorem ex_rest : restR exS (exS.take 1) exD = (exS, 0) := by kernel_rfl
theorem ex_valid : validR exS (exS.take 1) exD = true := by kernel_rfl
theorem ex_read : readR (0, 1, true) 0 1 ⟨#[48, 49]⟩ = ⟨#[49]⟩ := by kernel_rfl
theorem Sigs.take1 {w : World} {a : Option Addr} {n cap : Nat} {L : List (Sg × Value)} (h : Sigs w (.slice a n cap) L) (hn : n = L.length) (hl : 0 < L.length) (hc : 1 ≤ cap) : Sigs w (.slice a 1 cap) (L.take 1) := by
  obtain ⟨x, M, rfl⟩ : ∃ x M, L = x :: M := by
    cases L with
    | nil => simp at hl
    | cons x M => exact ⟨x, M, rfl⟩
  subst hn
  have hs := h.s
  rw [show sgs (x :: M) = sgs [x] ++ sgs M by simp [sgs]] at hs
  exact ⟨hs.cut (by simp) hc (Nat.le_refl _), fun y hy => h.m y (List.mem_of_mem_take hy)⟩

theorem own_slx {w : World} {b n cap : Nat} {C : Array Value} {xs : List Value} (h : OwnRow w b C.toList) (hx : xs = C.toList) (hn : n ≤ cap) (hm : cap ≤ maxLen) : SlR w (.slice (some ⟨b, 0, none⟩) n cap) n xs := by
  subst hx
  exact ⟨_, cap, rfl, hn, hm, fun h => by simp at h, fun _ => ⟨b, 0, rfl, fun j u hj => by rw [Nat.zero_add]; exact h.cell hj⟩⟩

def ExPost (w : World) (e : Ending) (w' : World) : Prop := ∃ g M, e = .returned (.slice (some ⟨g, 0, none⟩) 3 3) ∧ M.map Prod.fst = exS ∧ Sigs w' (.slice (some ⟨g, 0, none⟩) 3 3) M ∧ Below w.heap.size w w'
set_option maxHeartbeats 800000 in
set_option maxRecDepth 100000 in
theorem law_example (w : World) :
    Calls Tryz.prog 32 #[] w (ExPost w) := by
  have h0 := OwnRow.fresh w #[.int .i64 1, .string ⟨#[48, 49]⟩, .int .i64 3, .string ⟨#[49, 49]⟩] 75
  have hb0 : Below w.heap.size w (w.alloc (.cells #[.int .i64 1, .string ⟨#[48, 49]⟩, .int .i64 3, .string ⟨#[49, 49]⟩] 75)) := (Below.refl _ _).alloc (Nat.le_refl _) _
  have hz0 : (w.alloc (.cells #[.int .i64 1, .string ⟨#[48, 49]⟩, .int .i64 3, .string ⟨#[49, 49]⟩] 75)).heap.size = w.heap.size + 1 := by simp
  go_enter Tryz.func32, Tryz.ntmps32
  go_wp2_with fail
  generalize w.alloc (.cells #[.int .i64 1, .string ⟨#[48, 49]⟩, .int .i64 3, .string ⟨#[49, 49]⟩] 75) = w1 at h0 hb0 hz0 ⊢
  have h1 := OwnRow.fresh w1 #[.int .i64 1, .string ⟨#[48]⟩, .int .i64 3, .string ⟨#[49]⟩] 75
  have h0 := h0.alloc (by omega) (.cells #[.int .i64 1, .string ⟨#[48]⟩, .int .i64 3, .string ⟨#[49]⟩] 75)
  have hb1 := hb0.alloc hb0.size (.cells #[.int .i64 1, .string ⟨#[48]⟩, .int .i64 3, .string ⟨#[49]⟩] 75)
  have hz1 : (w1.alloc (.cells #[.int .i64 1, .string ⟨#[48]⟩, .int .i64 3, .string ⟨#[49]⟩] 75)).heap.size = w.heap.size + 1 + 1 := by simp [hz0]
  rw [hz0] at h1
  generalize w1.alloc (.cells #[.int .i64 1, .string ⟨#[48]⟩, .int .i64 3, .string ⟨#[49]⟩] 75) = w2 at h0 h1 hb1 hz1 ⊢
  have h2 := OwnRow.fresh w2 #[.int .i64 1, .string ⟨#[49]⟩, .int .i64 3, .string ⟨#[48]⟩] 75
  have h0 := h0.alloc (by omega) (.cells #[.int .i64 1, .string ⟨#[49]⟩, .int .i64 3, .string ⟨#[48]⟩] 75)
  have h1 := h1.alloc (by omega) (.cells #[.int .i64 1, .string ⟨#[49]⟩, .int .i64 3, .string ⟨#[48]⟩] 75)
  have hb2 := hb1.alloc hb1.size (.cells #[.int .i64 1, .string ⟨#[49]⟩, .int .i64 3, .string ⟨#[48]⟩] 75)
  have hz2 : (w2.alloc (.cells #[.int .i64 1, .string ⟨#[49]⟩, .int .i64 3, .string ⟨#[48]⟩] 75)).heap.size = w.heap.size + 1 + 1 + 1 := by simp [hz1]
  rw [hz1] at h2
  generalize w2.alloc (.cells #[.int .i64 1, .string ⟨#[49]⟩, .int .i64 3, .string ⟨#[48]⟩] 75) = w3 at h0 h1 h2 hb2 hz2 ⊢
  have h3 := OwnRow.fresh w3 #[.int .i64 0, .int .i64 2, .slice (some ⟨w.heap.size, 0, none⟩) 2 2, .int .i64 0, .int .i64 1, .slice (some ⟨w.heap.size + 1, 0, none⟩) 2 2, .int .i64 0, .int .i64 1, .slice (some ⟨w.heap.size + 1 + 1, 0, none⟩) 2 2] 37
  rw [hz2] at h3
  have h0 := h0.alloc (by omega) (.cells #[.int .i64 0, .int .i64 2, .slice (some ⟨w.heap.size, 0, none⟩) 2 2, .int .i64 0, .int .i64 1, .slice (some ⟨w.heap.size + 1, 0, none⟩) 2 2, .int .i64 0, .int .i64 1, .slice (some ⟨w.heap.size + 1 + 1, 0, none⟩) 2 2] 37)
  have h1 := h1.alloc (by omega) (.cells #[.int .i64 0, .int .i64 2, .slice (some ⟨w.heap.size, 0, none⟩) 2 2, .int .i64 0, .int .i64 1, .slice (some ⟨w.heap.size + 1, 0, none⟩) 2 2, .int .i64 0, .int .i64 1, .slice (some ⟨w.heap.size + 1 + 1, 0, none⟩) 2 2] 37)
  have h2 := h2.alloc (by omega) (.cells #[.int .i64 0, .int .i64 2, .slice (some ⟨w.heap.size, 0, none⟩) 2 2, .int .i64 0, .int .i64 1, .slice (some ⟨w.heap.size + 1, 0, none⟩) 2 2, .int .i64 0, .int .i64 1, .slice (some ⟨w.heap.size + 1 + 1, 0, none⟩) 2 2] 37)
  have hb3 := hb2.alloc hb2.size (.cells #[.int .i64 0, .int .i64 2, .slice (some ⟨w.heap.size, 0, none⟩) 2 2, .int .i64 0, .int .i64 1, .slice (some ⟨w.heap.size + 1, 0, none⟩) 2 2, .int .i64 0, .int .i64 1, .slice (some ⟨w.heap.size + 1 + 1, 0, none⟩) 2 2] 37)
  refine bodyPost_ret (v := .slice (some ⟨w.heap.size + 1 + 1 + 1, 0, none⟩) 3 3) (by simp [results, Tryz.results32, go_sem]) rfl ?_
  refine ⟨_, [((0, 2, [(1, ⟨#[48, 49]⟩), (3, ⟨#[49, 49]⟩)]), .slice (some ⟨w.heap.size, 0, none⟩) 2 2), ((0, 1, [(1, ⟨#[48]⟩), (3, ⟨#[49]⟩)]), .slice (some ⟨w.heap.size + 1, 0, none⟩) 2 2), ((0, 1, [(1, ⟨#[49]⟩), (3, ⟨#[48]⟩)]), .slice (some ⟨w.heap.size + 1 + 1, 0, none⟩) 2 2)], rfl, rfl, ⟨own_slx h3 rfl (Nat.le_refl _) (by decide), fun x hx => ?_⟩, hb3⟩
  rcases List.mem_cons.1 hx with rfl | hx
  · exact own_slx h0 rfl (Nat.le_refl _) (by decide)
  · rcases List.mem_cons.1 hx with rfl | hx
    · exact own_slx h1 rfl (Nat.le_refl _) (by decide)
    · rcases List.mem_cons.1 hx with rfl | hx
      · exact own_slx h2 rfl (Nat.le_refl _) (by decide)
      · cases hx
theorem exS_fit : ∀ s ∈ exS, Fit s.2.2 := by
  show ∀ s ∈ exS, s.2.2.length ≤ 1000000 ∧ ∀ c ∈ s.2.2, c.2.size ≤ 1000000
  decide
theorem exL_fit {M : List (Sg × Value)} (h : M.map Prod.fst = exS) : FitS M ∧ FitS (M.take 1) ∧ M.length = 3 := by
  have hl : M.length = 3 := by have := congrArg List.length h; simpa [exS] using this
  have hf : ∀ x ∈ M, Fit x.1.2.2 := fun x hx => exS_fit x.1 (h ▸ List.mem_map_of_mem hx)
  exact ⟨⟨by omega, hf⟩, ⟨by rw [List.length_take]; omega, fun x hx => hf x (List.mem_of_mem_take hx)⟩, hl⟩

set_option maxHeartbeats 1600000 in
set_option maxRecDepth 100000 in
theorem law_awake29 (w : World) (hg : Glob w) :
    Calls Tryz.prog 8 #[] w fun e w' => e = .returned (.bool true) ∧ Below w.heap.size w w' := by
  have HG := Lib.hid hg
  clear hg
  go_enter Tryz.func8, Tryz.ntmps8
  go_wp2_with fail
  refine (law_example w).mono ?_
  rintro e w1 ⟨g, M, rfl, hM, hs1, hb1⟩
  obtain ⟨hf, hf1, hml⟩ := exL_fit hM
  have HM := Lib.hid hM
  have HS1 := Lib.hid hs1
  have HB1 := Lib.hid hb1
  have HF1 := Lib.hid hf1
  have HFI := Lib.hid (al_Find _ M w1 (HG.out.below hb1) hs1 hf (by omega))
  rw [HM.out, ex_find] at HFI
  have HT1 := Lib.hid (hs1.take1 hml.symm (by omega) (by decide))
  clear hM hs1 hb1 hf hf1 hml
  go_wp2_with fail
  refine HFI.out.mono ?_
  rintro e w2 ⟨v1, v2, rfl, ho1, ho2, hb2⟩
  obtain ⟨b1, o1, c1, rfl, -, -, hc1⟩ := (SlR.of_own (show w2.ownsRow w1.heap.size 3 1 v1 1 (nats [0]) from ho1)).at (by decide)
  have k0 : w2.cell? ⟨b1, o1, none⟩ = some (.int .i64 0) := hc1 0 (.int .i64 0) rfl
  have ho2' : SlR w2 v2 3 (dvs exD) := ho2
  obtain ⟨b2, o2, c2, rfl, -, -, hc2⟩ := ho2'.at (by decide)
  have HD := Lib.hid ho2'
  have HB2 := Lib.hid hb2
  have k6 := hc2 6 (.int .i64 0) rfl
  have k7 := hc2 7 (.int .i64 1) rfl
  have k8 := hc2 8 (.bool true) rfl
  have hbx := (Below.refl w2.heap.size w2).alloc (Nat.le_refl _) (.cells #[.int .i64 0, .int .i64 0, .bool false, .int .i64 0, .int .i64 1, .bool false, .int .i64 0, .int .i64 1, .bool true] 34)
  have HE := Lib.hid (own_slx (xs := dvs exD) (n := 3) (cap := 3) (OwnRow.fresh w2 #[.int .i64 0, .int .i64 0, .bool false, .int .i64 0, .int .i64 1, .bool false, .int .i64 0, .int .i64 1, .bool true] 34) rfl (Nat.le_refl _) (by decide))
  have HBX := Lib.hid hbx
  clear ho1 ho2 ho2' hc1 hc2 hb2 hbx
  go_wp2_with fail
  refine (ref_Same _ _ exD exD _ (HD.out.below HBX.out) HE.out).mono ?_
  rw [decide_eq_true (show exD = exD from rfl)]
  rintro e w3 ⟨rfl, hb3⟩
  have HB3 := Lib.hid (ext_trans HBX.out hb3)
  have HB03 := Lib.hid (ext_trans (ext_trans HB1.out HB2.out) HB3.out)
  have HB13 := Lib.hid (ext_trans HB2.out HB3.out)
  have HRS := Lib.hid (al_Restore _ _ _ M (M.take 1) exD w3 (HG.out.below HB03.out) (HS1.out.below HB13.out) (HT1.out.below HB13.out) (HD.out.below HB3.out) HF1.out)
  rw [List.map_take, HM.out, ex_rest] at HRS
  clear hb3
  go_wp2_with fail
  refine HRS.out.mono ?_
  rintro e w4 ⟨v4, M4, rfl, hM4, ho4, hb4⟩
  have HB4 := Lib.hid (ext_trans HB13.out hb4)
  have HB24 := Lib.hid (ext_trans HB3.out hb4)
  have HS4 := Lib.hid ho4.sigs
  obtain ⟨a4, c4, rfl, -, -⟩ := ho4.sigs.s.shape
  have HSI := Lib.hid (ref_Signals _ _ M4 M w4 ho4.sigs (HS1.out.below HB4.out))
  rw [hM4, HM.out, decide_eq_true (show exS = exS from rfl)] at HSI
  clear hM4 ho4 hb4
  go_wp2_with fail
  refine HSI.out.mono ?_
  rintro e w5 ⟨rfl, hb5⟩
  have HB5 := Lib.hid (ext_trans HB4.out hb5)
  have HB25 := Lib.hid (ext_trans HB24.out hb5)
  have HVA := Lib.hid (al_Valid _ _ _ M (M.take 1) exD w5 (HS1.out.below HB5.out) (HT1.out.below HB5.out) (HD.out.below HB25.out))
  rw [List.map_take, HM.out, ex_valid] at HVA
  clear hb5
  go_wp2_with fail
  refine HVA.out.mono ?_
  rintro e w6 ⟨rfl, hb6⟩
  have HB6 := Lib.hid (ext_trans HB5.out hb6)
  have HB26 := Lib.hid (ext_trans HB25.out hb6)
  have d0 := (HB26.out.cell (p := ⟨b2, o2 + 6, none⟩) (cell_lt k6)).trans k6
  have d1 := (HB26.out.cell (p := ⟨b2, o2 + 7, none⟩) (cell_lt k7)).trans k7
  have d2 := (HB26.out.cell (p := ⟨b2, o2 + 8, none⟩) (cell_lt k8)).trans k8
  have HRD := Lib.hid (al_Read (0, 1, true) 0 1 ⟨#[48, 49]⟩ w6 (HG.out.below (ext_trans HB1.out HB6.out)) (by decide))
  rw [ex_read] at HRD
  clear hb6 k6 k7 k8 k0
  go_wp2_with fail
  refine HRD.out.mono ?_
  rintro e w7 ⟨rfl, hb7⟩
  have HB7 := Lib.hid (ext_trans (ext_trans HB1.out HB6.out) hb7)
  clear hb7 d0 d1 d2
  go_wp2_with fail
  go_ret
  exact ⟨rfl, HB7.out⟩
end Go.Proofs.YtimeilkelnljnaaGreatDoor
