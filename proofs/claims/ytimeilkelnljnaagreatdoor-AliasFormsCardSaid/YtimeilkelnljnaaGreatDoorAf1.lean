import Derived.Test.YtimeilkelnljnaaGreatDoorAo3
import Derived.Test.YtimeilkelnljnaaGreatDoorFit
import Derived.Test.YtimeilkelnljnaaGreatDoorTimes
namespace Go.Proofs.YtimeilkelnljnaaGreatDoor
open Go.RowKit Go.Sort

/-! alias.Find -/
def FindPost (r : List Nat × List Dv) (w : World) (e : Ending) (w' : World) : Prop :=
  ∃ v1 v2, e = .returned (.tuple #[v1, v2]) ∧ w'.ownsRow w.heap.size 3 1 v1 r.1.length (nats r.1) ∧ SlR w' v2 r.2.length (dvs r.2) ∧ Below w.heap.size w w'
theorem own_nil (w : World) (B e size : Nat) : w.ownsRow B e size (.slice none 0 0) 0 [] := ⟨by simp, .inl ⟨rfl, rfl⟩⟩

theorem dv_info : (Tryz.prog.info? 34).map (fun i => (i.zero, i.size, i.bytes)) = some (some (.agg #[.int .i64 0, .int .i64 0, .bool false]), 3, 24) := by kernel_rfl
theorem made_dvs (n : Nat) : (madeCells (Value.agg #[.int .i64 0, .int .i64 0, .bool false]).cells (n * 3)).toList = dvs (List.replicate n (0, 0, false)) := by
  have h : (Value.agg #[.int .i64 0, .int .i64 0, .bool false]).cells = #[.int .i64 0, .int .i64 0, .bool false] := rfl
  rw [h]
  unfold madeCells
  induction n with
  | zero => simp [dvs]
  | succ n ih =>
    rw [List.replicate_succ', dvs, List.flatMap_append, ← dvs, ← ih, show (n + 1) * 3 = n * 3 + 1 + 1 + 1 by omega]
    simp [List.range_succ, dvC, show (n * 3 + 1) % 3 = 1 by omega, show (n * 3 + 1 + 1) % 3 = 2 by omega]
theorem ownRow_of {w : World} {B e size n : Nat} {g c : Nat} {xs : List Value} {v : Value} (h : w.ownsRow B e size v n xs) (hv : v = .slice (some ⟨g, 0, none⟩) n c) : OwnRow w g xs := by
  rcases h.2 with ⟨h0, -⟩ | ⟨g', cap', cur, h0, hbase, hb, hn, hm, hsz, htk⟩
  · rw [hv] at h0; cases h0
  rw [hv] at h0
  injection h0 with e1 _ e3
  injection e1 with e1
  injection e1 with e1 _ _
  subst e1 e3
  intro j u hj
  have hj' : cur.toList[j]? = some u := by
    rw [← htk, List.getElem?_take] at hj
    split at hj
    · exact hj
    · cases hj
  rw [Array.getElem?_toList] at hj'
  exact ⟨by simp [World.cell?, hb, hj'], by simp [World.frozen?, hb]⟩
theorem own_lt {w : World} {B e size n : Nat} {g c : Nat} {xs : List Value} {v : Value} (h : w.ownsRow B e size v n xs) (hv : v = .slice (some ⟨g, 0, none⟩) n c) : g < w.heap.size := by
  rcases h.2 with ⟨h0, -⟩ | ⟨g', cap', cur, h0, hbase, hb, -⟩
  · rw [hv] at h0; cases h0
  rw [hv] at h0
  injection h0 with e1 _ e3
  injection e1 with e1
  injection e1 with e1 _ _
  subst e1
  rcases Nat.lt_or_ge g w.heap.size with h' | h'
  · exact h'
  · rw [Array.getElem?_eq_none h'] at hb; cases hb
theorem own_below {W W' : World} {B e size n : Nat} {v : Value} {xs : List Value} (h : W.ownsRow B e size v n xs) (hb : RowKit.Below W.heap.size W W') : W'.ownsRow B e size v n xs :=
  h.kept (row := none) ⟨hb.os, hb.tape, hb.output, hb.size, fun i hi _ => hb.block i hi⟩ (by cases v.ownBlock <;> simp)
theorem dvs_set : ∀ (l : List Dv) (k : Nat) (d : Dv), (((dvs l).set (3 * k) (.int .i64 d.1)).set (3 * k + 1) (.int .i64 d.2.1)).set (3 * k + 2) (.bool d.2.2) = dvs (l.set k d)
  | [], k, d => by simp [dvs]
  | x :: l, 0, d => by rw [List.set_cons_zero, dvs_cons, dvs_cons]; rfl
  | x :: l, k + 1, d => by
    rw [dvs_cons, List.set_cons_succ, dvs_cons, ← dvs_set l k d, show 3 * (k + 1) = 3 * k + 1 + 1 + 1 by omega]
    simp
theorem ownRow_put {w : World} {g : Nat} {D : List Dv} {kk : Nat} (h : OwnRow w g (dvs D)) (hk : kk < D.length) (d : Dv) :
    OwnRow (((w.setCell ⟨g, kk * 3, none⟩ (.int .i64 d.1)).setCell ⟨g, kk * 3 + 1, none⟩ (.int .i64 d.2.1)).setCell ⟨g, kk * 3 + 2, none⟩ (.bool d.2.2)) g (dvs (D.set kk d)) := by
  have hl := dvs_len D
  rw [← dvs_set, Nat.mul_comm 3 kk]
  exact ((h.set (j := kk * 3) (by omega) _).set (j := kk * 3 + 1) (by simp; omega) _).set (j := kk * 3 + 2) (by simp; omega) _
theorem below_put {B : Nat} {w W : World} (h : RowKit.Below B w W) {g : Nat} (hg : B ≤ g) (i j k : Nat) (x y z : Value) :
    RowKit.Below B w (((W.setCell ⟨g, i, none⟩ x).setCell ⟨g, j, none⟩ y).setCell ⟨g, k, none⟩ z) := ((h.setCell hg _).setCell hg _).setCell hg _
theorem ownsRow_put {w : World} {B e size n : Nat} {v : Value} {xs : List Value} (h : w.ownsRow B e size v n xs) {g : Nat} (hg : g < B) (i j k : Nat) (x y z : Value) :
    (((w.setCell ⟨g, i, none⟩ x).setCell ⟨g, j, none⟩ y).setCell ⟨g, k, none⟩ z).ownsRow B e size v n xs := ownsRow_setCell_below (ownsRow_setCell_below (ownsRow_setCell_below h hg _) hg _) hg _
theorem nats_app (a b : List Nat) : nats (a ++ b) = nats a ++ nats b := by simp [nats]
theorem stepF_r {L : List Sg} {st : List Nat} {ds : List Dv} {kk : Nat} {s : Sg} {r : Option Dv} (h : sgAt L kk = s) (hr : r = deriveR L st s) :
    (r.isSome = true → stepF L (st, ds) kk = (st, ds.set kk (r.getD (0, 0, false)))) ∧ (r.isSome = false → stepF L (st, ds) kk = (st ++ [kk], ds.set kk ((kk : Int), 0, false))) := by
  subst hr h
  unfold stepF
  dsimp only
  cases deriveR L st (sgAt L kk) with
  | none => exact ⟨fun h => by simp at h, fun _ => rfl⟩
  | some d => exact ⟨fun _ => rfl, fun h => by simp at h⟩
theorem nats_ints (st : List Nat) : nats st = ints (st.map fun (k : Nat) => (k : Int)) := by simp [nats, ints]
theorem sort_map (st : List Nat) : (st.map fun (k : Nat) => (k : Int)).mergeSort (fun x y => decide (x ≤ y)) = (st.mergeSort fun x y => decide (x ≤ y)).map fun (k : Nat) => (k : Int) := by
  rw [List.map_mergeSort]
  intro a _ b _
  rw [Bool.eq_iff_iff, decide_eq_true_iff, decide_eq_true_iff]
  omega
theorem sort_nats (B : Nat) (v : Value) (st : List Nat) (w : World) (h : w.ownsRow B 3 1 v st.length (nats st)) (hl : st.length ≤ 1000000) :
    Calls Tryz.prog 39 #[v] w fun e w' => e = .returned (.tuple #[]) ∧ w'.ownsRow B 3 1 v (st.mergeSort fun x y => decide (x ≤ y)).length (nats (st.mergeSort fun x y => decide (x ≤ y))) ∧ w.grownBy w' v.ownBlock := by
  rw [nats_ints] at h
  rcases h.2 with ⟨rfl, h0⟩ | ⟨g, cap, cur, rfl, hbase, hb, hn, hm, hsz, htk⟩
  · have h1 : st = [] := by cases st with
      | nil => rfl
      | cons x l => simp at h0
    subst h1
    refine (Tryz.slices_Sort_int_none none 0 w).mono ?_
    rintro e w' ⟨rfl, rfl⟩
    exact ⟨rfl, by simpa [nats] using own_nil _ _ _ _, World.grownBy.refl _ _⟩
  · have hlen : (st.map fun (k : Nat) => (k : Int)).length = st.length := by simp
    have hH := holds_of_blockI (ss := st.map fun (k : Nat) => (k : Int)) hb (by rw [hlen]; rw [Nat.mul_one] at htk; exact htk)
    have hs := Tryz.slices_Sort_int g 0 cap (st.map fun (k : Nat) => (k : Int)) w hH (Array.getElem?_eq_some_iff.1 hb).1 (by rw [hlen]; omega)
    rw [hlen] at hs
    refine hs.mono ?_
    rintro e w' ⟨rfl, n, os, rfl⟩
    have hlen2 : ((st.map fun (k : Nat) => (k : Int)).mergeSort fun x y => decide (x ≤ y)).length = (st.map fun (k : Nat) => (k : Int)).length := List.length_mergeSort _
    refine ⟨rfl, ?_, grownBy_sortedI _⟩
    have ho := ownsRow_sortedI (n := n) (os := os) (ts := (st.map fun (k : Nat) => (k : Int)).mergeSort fun x y => decide (x ≤ y)) hlen2 hbase hb (by rw [hlen]; exact hn) hm hsz
    rw [List.length_mergeSort, nats_ints, ← sort_map]
    rw [hlen] at ho
    exact ho
theorem set_same {α : Type} {l : List α} {i : Nat} {a : α} (h : l[i]? = some a) : l.set i a = l := by
  obtain ⟨h1, rfl⟩ := List.getElem?_eq_some_iff.1 h
  exact List.set_getElem_self h1
/-- the derivations, some of them renumbered -/
def renL (ST : List Nat) (ds : List Dv) (p : Nat) : List Dv := (ds.take p).map (renum ST) ++ ds.drop p
theorem renL_len (ST : List Nat) (ds : List Dv) (p : Nat) : (renL ST ds p).length = ds.length := by
  unfold renL
  rw [List.length_append, List.length_map, List.length_take, List.length_drop]
  omega
theorem renL_at {ST : List Nat} {ds : List Dv} {p : Nat} (h : p < ds.length) : (renL ST ds p)[p]? = some ds[p] := by
  unfold renL
  rw [List.getElem?_append_right (by rw [List.length_map, List.length_take]; omega), List.length_map, List.length_take, Nat.min_eq_left (by omega), Nat.sub_self, List.getElem?_drop, Nat.add_zero, List.getElem?_eq_getElem h]
theorem renL_step {ST : List Nat} {ds : List Dv} {p : Nat} (h : p < ds.length) : renL ST ds (p + 1) = (renL ST ds p).set p (renum ST ds[p]) := by
  unfold renL
  rw [List.set_append_right _ _ (by rw [List.length_map, List.length_take]; omega), List.length_map, List.length_take, Nat.min_eq_left (by omega), Nat.sub_self, List.drop_eq_getElem_cons h, List.set_cons_zero, List.take_succ_eq_append_getElem h, List.map_append]
  simp
theorem renL_end (ST : List Nat) (ds : List Dv) : renL ST ds ds.length = ds.map (renum ST) := by
  unfold renL
  rw [List.take_length, List.drop_length, List.append_nil]
theorem index_nats (v : Value) (st : List Nat) (k : Nat) (w : World) (hs : SlR w v st.length (nats st)) (hk : k ∈ st) (hl : st.length ≤ 1000000) :
    Calls Tryz.prog 40 #[v, .int .i64 (k : Int)] w fun e w' => e = .returned (.int .i64 ((st.idxOf k : Nat) : Int)) ∧ w' = w := by
  have hlt := List.idxOf_lt_length_of_mem hk
  obtain ⟨b, o, cap, rfl, -, -, hcell⟩ := hs.at (by omega)
  have hx := Tryz.slices_Index_int b o st.length cap (st.map fun (k : Nat) => (k : Int)) (k : Int) w (by simp) (by omega) (fun j hj => hcell j _ (by
    rw [List.length_map] at hj
    simp [nats, List.getD, hj]))
  rw [Lib.idxOf_hit (st.map fun (k : Nat) => (k : Int)) st.length (st.idxOf k) (k : Int) hlt (by simp) (by simp [List.getD, hlt]) (fun j hj => by
    have hne : st[j] ≠ k := fun e => by
      have := List.not_of_lt_findIdx (p := (· == k)) (xs := st) (i := j) (by unfold List.idxOf at hj; exact hj)
      simp [e] at this
    have hjl : j < st.length := by omega
    simp [List.getD, hjl]
    omega)] at hx
  exact hx
theorem find_sortA (w0 w : World) (v : Value) (L : List (Sg × Value)) (so : Value) (hs : Sigs w0 v L) (hw : RowKit.Below w0.heap.size w0 w) (hb : w.cell? ⟨w0.heap.size, 0, none⟩ = some v) (hl : L.length < 20)
    (hown : w.ownsRow (w0.heap.size + 1) 3 1 so L.length (nats (List.range L.length))) :
    Calls Tryz.prog 35 #[so, .func (.func 36) #[] #[.pointer (some ⟨w0.heap.size, 0, none⟩)]] w fun e w' =>
      e = .returned (.tuple #[]) ∧ w'.ownsRow (w0.heap.size + 1) 3 1 so L.length (nats (ordF (L.map Prod.fst))) ∧ RowKit.Below (w0.heap.size + 1) w w' := by
  by_cases h0 : 0 < L.length
  · exact find_sort w0 w v L so hs hw hb hl h0 hown
  · have h1 : L = [] := List.eq_nil_of_length_eq_zero (by omega)
    subst h1
    obtain ⟨a, cap, rfl, -, -⟩ := (SlR.of_own hown).shape
    have hbs : w0.heap.size + 1 ≤ w.heap.size := by have := cell_lt hb; omega
    refine (al_sort0 a cap w0.heap.size w).mono ?_
    rintro e w' ⟨rfl, hb'⟩
    refine ⟨rfl, ?_, hb'.mono hbs⟩
    have e : ordF (([] : List (Sg × Value)).map Prod.fst) = [] := by simp [ordF]
    rw [e]
    exact own_below hown hb'

set_option maxHeartbeats 8000000 in
set_option maxRecDepth 100000 in
theorem al_Find (v : Value) (L : List (Sg × Value)) (w : World) (hg : Glob w) (hs : Sigs w v L) (hf : FitS L) (hl : L.length ≤ 8) :
    Calls Tryz.prog 10 #[v] w (FindPost (findR (L.map Prod.fst)) w) := by
  have hbx : Below w.heap.size w (w.alloc (.cells #[v] 22)) := (Below.refl _ _).alloc (Nat.le_refl _) _
  have hcx := (OwnRow.fresh w #[v] 22).cell (j := 0) rfl
  have HAV := Lib.hid (al_allV v L _ (hs.below hbx) (fun x hx W hW => by
    have hW' := hbx.trans (hW.mono hbx.size)
    exact sig_Valid x.1.1 x.1.2.1 x.2 x.1.2.2 W (hg.below hW') ((hs.m x hx).below hW') (hf.2 x hx)))
  obtain ⟨i0, hi, iz0, iz1, iz2⟩ := info_parts (P := Tryz.prog) int_info
  obtain ⟨i1, hi1, jz0, jz1, jz2⟩ := info_parts (P := Tryz.prog) dv_info
  obtain ⟨a, cap, rfl, hc, hm⟩ := hs.s.shape
  have HS := Lib.hid hs
  have HF := Lib.hid hf
  have HG := Lib.hid hg
  have HBX := Lib.hid hbx
  have hsz : decide ((L.length : Int) > 64) = false := by rw [decide_eq_false_iff_not]; omega
  clear hs hf hg hbx
  go_enter Tryz.func10, Tryz.ntmps10
  go_wp2_with fail
  refine HAV.out.mono ?_
  rintro e w1 ⟨rfl, hb1⟩
  have hcell1 := (hb1.cell (p := ⟨w.heap.size, 0, none⟩) (by simp)).trans hcx
  have HB1 := Lib.hid (HBX.out.trans (hb1.mono (by simp)))
  have hz1 : w.heap.size + 1 ≤ w1.heap.size := by have := hb1.size; simpa using this
  clear hb1 HAV
  cases hall : L.all fun x => svS x.1
  · have HR := Lib.hid (show findR (L.map Prod.fst) = ([], []) by unfold findR; rw [List.all_map, if_neg (by rw [show L.all (svS ∘ Prod.fst) = L.all (fun x => svS x.1) from rfl, hall]; simp)])
    clear hall
    go_wp2_with fail
    refine bodyPost_ret (v := .tuple #[.slice none 0 0, .slice none 0 0]) (by simp [results, Tryz.results10, go_sem]) rfl ?_
    rw [HR.out]
    exact ⟨_, _, rfl, own_nil _ _ _ _, SlR.nil _, HB1.out⟩
  have HALL := Lib.hid hall
  clear hall
  go_wp2_with fail
  go_loopw [23, 4] (fun i o_ wr => ∃ (j : Nat), j ≤ L.length ∧ i = .int .i64 j ∧ wr.ownsRow (w.heap.size + 1) 3 1 o_ j (nats (List.range j)) ∧ RowKit.Below (w.heap.size + 1) w1 wr ∧ RowKit.Below w.heap.size w wr)
    (fun i _ _ => L.length - (intOf i).toNat)
  case atStart => exact ⟨0, Nat.zero_le _, rfl, own_nil _ _ _ _, Below.refl _ _, HB1.out⟩
  case round =>
    obtain ⟨j, hj, rfl, ho, hb, hb0⟩ := hrel
    obtain ⟨ao, co, rfl, -, -⟩ := (SlR.of_own ho).shape
    have HO := Lib.hid ho
    have HB := Lib.hid hb
    have HB0 := Lib.hid hb0
    clear ho hb hb0 HB1
    have HCX := Lib.hid hcell1
    clear hcell1
    by_cases hlt : j < L.length
    · have HC := Lib.hid (World.news_of_block (w := wr.alloc (.cells #[.int .i64 j] 3)) (cs := #[.int .i64 j]) (t := 3) (fr := (0, 0)) (by exact heap_alloc_new wr _))
      have hcx2 := (HB.out.cell (p := ⟨w.heap.size, 0, none⟩) (by simp))
      have hjl : j ≤ 8 := by omega
      have hszb := HB.out.size
      go_wp2_with (at_builtin; refine wpList_append_own _ rfl _ _ 25 rfl (w.heap.size + 1) 3 i0 (.int .i64 0) 1 8 Tryz.underlying25 hi iz0 iz1 iz2 rfl (by decide) _ _ _ rfl (World.ownsRow.alloc (by exact HO.out) _) ⟨wr.heap.size, 0, none⟩ 1 1 [.int .i64 j] rfl rfl HC.out (by simp [Value.oneCell']) (by unfold maxLen; omega) (by omega) (by simp; omega) ?_)
      intro v6 w6 ho6 hg6 _
      have HO6 := Lib.hid ho6
      have HB6 := Lib.hid ((HB.out.alloc (by omega) (.cells #[.int .i64 j] 3)).grown hg6 (by simp; omega) (fun q hq => (HO.out.lt q hq).1))
      have HB60 := Lib.hid ((HB0.out.alloc HB0.out.size (.cells #[.int .i64 j] 3)).grown hg6 (by simp; omega) (fun q hq => by have := (HO.out.lt q hq).1; omega))
      clear ho6 hg6
      go_wp2_with fail
      go_roundw
      case rel => exact ⟨j + 1, by omega, by go_num, by have := HO6.out; simpa [nats, List.range_succ] using this, HB6.out, HB60.out⟩
      case measure => simp [intOf]; omega
    · obtain rfl : j = L.length := by omega
      have HSO := Lib.hid (find_sortA w wr (.slice a L.length cap) L (.slice ao L.length co) HS.out HB0.out ((HB.out.cell (p := ⟨w.heap.size, 0, none⟩) (by simp)).trans HCX.out) (by omega) HO.out)
      have hcx2 := (HB.out.cell (p := ⟨w.heap.size, 0, none⟩) (by simp)).trans HCX.out
      go_wp2_with fail
      refine HSO.out.mono ?_
      rintro e w2 ⟨rfl, ho2, hb2⟩
      have hcx3 := (hb2.cell (p := ⟨w.heap.size, 0, none⟩) (by simp)).trans hcx2
      have HO2 := Lib.hid ho2
      have HB2 := Lib.hid (HB0.out.trans (hb2.mono (by omega)))
      clear ho2 hb2 hcx2
      obtain ⟨w3, hmk, ho3, hg3⟩ := run_make_full (P := Tryz.prog) (w := w2) w2.heap.size 26 34 i1 _ 3 Tryz.underlying26 hi1 jz0 jz1 .i64 .i64 L.length (by rw [jz2]; omega) (by unfold maxLen; omega) (Nat.le_refl _)
      have hcx4 := (Below.grown (Below.refl (w.heap.size + 1) w2) hg3 (by have := cell_lt hcx3; omega) (by simp)).cell (p := ⟨w.heap.size, 0, none⟩) (by simp)
      have hcx4 := hcx4.trans hcx3
      go_wp2_with fail
      have hmd : (madeCells (Value.agg #[.int .i64 0, .int .i64 0, .bool false]).cells (L.length * 3)).toList = dvs (List.replicate L.length (0, 0, false)) := made_dvs _
      have hb3 := Below.grown (Below.refl w2.heap.size w2) hg3 (Nat.le_refl _) (by simp)
      have hout : OwnRow w3 w2.heap.size (dvs (List.replicate L.length (0, 0, false))) := by rw [← hmd]; exact ownRow_of ho3 rfl
      have hz3 : w2.heap.size < w3.heap.size := own_lt ho3 rfl
      have HB3 := Lib.hid hb3
      have HOUT := Lib.hid hout
      clear hb3 hout hmd ho3 hg3 hcx4 hmk
      go_loopw [39, 5] (fun i st_ wr => ∃ (q : Nat), q ≤ L.length ∧ i = .int .i64 q ∧ RowKit.Below w2.heap.size w2 wr ∧ w2.heap.size < wr.heap.size ∧ OwnRow wr w2.heap.size (dvs (runF (L.map Prod.fst) ((ordF (L.map Prod.fst)).take q)).2) ∧
          wr.ownsRow (w2.heap.size + 1) 3 1 st_ (runF (L.map Prod.fst) ((ordF (L.map Prod.fst)).take q)).1.length (nats (runF (L.map Prod.fst) ((ordF (L.map Prod.fst)).take q)).1))
        (fun i _ _ => L.length - (intOf i).toNat)
      case atStart => exact ⟨0, Nat.zero_le _, rfl, HB3.out, hz3, by have := HOUT.out; simpa [runF] using this, own_nil _ _ _ _⟩
      case round =>
        obtain ⟨q, hq, rfl, hb, hz, hout, hst⟩ := hrel
        obtain ⟨asl, cs, rfl, -, -⟩ := (SlR.of_own hst).shape
        have HB := Lib.hid hb
        have HO3 := Lib.hid hout
        have HST := Lib.hid hst
        clear hb hout hst HB3 HOUT
        have hol : (ordF (L.map Prod.fst)).length = L.length := by rw [(ordF_perm _).length_eq]; simp
        by_cases hlt : q < L.length
        · obtain ⟨bo, oo, c', hv, -, -, hcell⟩ := ((SlR.of_own HO2.out).below HB.out).at (by omega)
          injection hv with e1 e2 e3
          subst e1
          clear e2 e3
          obtain ⟨kk, hkk⟩ : ∃ kk, (ordF (L.map Prod.fst))[q]? = some kk := ⟨_, List.getElem?_eq_getElem (by omega)⟩
          have hkc := hcell q (.int .i64 (kk : Int)) (by simp [nats, hkk])
          have hki : kk < L.length := by have := ordF_mem.1 (List.mem_of_getElem? hkk); simpa using this
          have HKK := Lib.hid hkk
          have hbx := (HB.out.cell (p := ⟨w.heap.size, 0, none⟩) (cell_lt hcx3)).trans hcx3
          have HRUN := Lib.hid (show runF (L.map Prod.fst) ((ordF (L.map Prod.fst)).take (q + 1)) = stepF (L.map Prod.fst) (runF (L.map Prod.fst) ((ordF (L.map Prod.fst)).take q)) kk by
            rw [← runF_snoc]
            congr 1
            rw [List.take_add_one, hkk]; rfl)
          have hsub := runF_sub (L.map Prod.fst) ((ordF (L.map Prod.fst)).take q)
          have HSL := Lib.hid (show (runF (L.map Prod.fst) ((ordF (L.map Prod.fst)).take q)).2.length = L.length by rw [runF_len]; simp)
          have HIN := Lib.hid (show ∀ k ∈ (runF (L.map Prod.fst) ((ordF (L.map Prod.fst)).take q)).1, k < L.length from fun k hk => by have := ordF_mem.1 (List.mem_of_mem_take (hsub.mem hk)); simpa using this)
          have hsl8 : (runF (L.map Prod.fst) ((ordF (L.map Prod.fst)).take q)).1.length ≤ 8 := by
            have := hsub.length_le
            rw [List.length_take] at this
            omega
          clear hsub
          generalize runF (L.map Prod.fst) ((ordF (L.map Prod.fst)).take q) = σ at HO3 HST HRUN HSL HIN hsl8 ⊢
          obtain ⟨st, ds⟩ := σ
          dsimp only at HO3 HST HSL HIN hsl8 ⊢
          obtain ⟨bb, oo2, e2, y0, y1, y2, hd⟩ := HS.out.at hki
          subst e2
          have hB0 : RowKit.Below w.heap.size w wr := HB2.out.trans (HB.out.mono HB2.out.size)
          have HX := Lib.hid (show sgAt (L.map Prod.fst) kk = L[kk].1 by rw [sgAt_lt (by simpa using hki)]; simp)
          have HFX := Lib.hid (HF.out.2 _ (List.getElem_mem hki))
          have hvx : svS L[kk].1 = true := List.all_eq_true.1 HALL.out _ (List.getElem_mem hki)
          generalize L[kk] = x at y0 y1 y2 hd HX HFX hvx
          obtain ⟨⟨xk, xn, xl⟩, xv⟩ := x
          dsimp only at y0 y1 y2 hd HX HFX hvx
          obtain ⟨xa, xc, rfl, -, -⟩ := hd.shape
          have x0 := (hB0.cell (p := ⟨bb, oo2 + kk * 3, none⟩) (cell_lt y0)).trans y0
          have x1 := (hB0.cell (p := ⟨bb, oo2 + kk * 3 + 1, none⟩) (cell_lt y1)).trans y1
          have x2 := (hB0.cell (p := ⟨bb, oo2 + kk * 3 + 2, none⟩) (cell_lt y2)).trans y2
          have HD0 := fun (W : World) (hW : RowKit.Below wr.heap.size wr W) => al_derive (.slice (some ⟨bb, oo2, none⟩) L.length cap) (.slice asl st.length cs) L st (xk, xn, xl) (.slice xa xl.length xc) W (HG.out.below (hB0.trans (hW.mono hB0.size))) (HS.out.below (hB0.trans (hW.mono hB0.size))) HF.out
            ((SlR.of_own HST.out).below hW) (by omega) HIN.out (hd.below (hB0.trans (hW.mono hB0.size))) HFX.out (fun y hy => sv_width (List.all_eq_true.1 HALL.out y hy)) (sv_width hvx)
            (fun h0 => ⟨vt_other (sv_iff.1 hvx).1 h0, fun y hy hk => vt_other (sv_iff.1 (List.all_eq_true.1 HALL.out y hy)).1 (by rw [hk]; exact h0)⟩)
          obtain ⟨r, hr⟩ : ∃ r, r = deriveR (L.map Prod.fst) st (xk, xn, xl) := ⟨_, rfl⟩
          obtain ⟨hst1, hst2⟩ := stepF_r (ds := ds) HX.out hr
          unfold DrPost at HD0
          rw [← hr] at HD0
          obtain ⟨⟨d0, d1, d2⟩, hd0⟩ : ∃ d, d = r.getD (0, 0, false) := ⟨_, rfl⟩
          obtain ⟨ok, hok⟩ : ∃ ok, ok = r.isSome := ⟨_, rfl⟩
          rw [← hd0, ← hok] at HD0
          dsimp only at HD0
          have HD := Lib.hid HD0
          rw [← hd0, ← hok] at hst1
          rw [← hok] at hst2
          have HT := Lib.hid hst1
          have HN := Lib.hid hst2
          have HBX := Lib.hid hbx
          have HX0 := Lib.hid x0
          have HX1 := Lib.hid x1
          have HX2 := Lib.hid x2
          have hbl := cell_lt hbx
          have hxl := cell_lt x0
          clear hst1 hst2 hr hd0 hok HD0 hcell hkk hd y0 y1 y2 hvx
          go_upto_region 14 with fail
          go_region_held3 (fun w' => w'.cell? ⟨w.heap.size, 0, none⟩ = some (.slice (some ⟨bb, oo2, none⟩) L.length cap) ∧ w'.cell? ⟨bb, oo2 + kk * 3, none⟩ = some (.int .i64 xk) ∧ w'.cell? ⟨bb, oo2 + kk * 3 + 1, none⟩ = some (.int .i64 xn) ∧ w'.cell? ⟨bb, oo2 + kk * 3 + 2, none⟩ = some (.slice xa xl.length xc))
            (first | exact ⟨hbx, x0, x1, x2⟩ | exact ⟨v3, v0, v1, v2⟩ | (exact ⟨(((B5.out.setCell hDg9 _).setCell hDg9 _).setCell hDg9 _).cell (p := ⟨w.heap.size, 0, none⟩) hbl |>.trans HBX.out, (((B5.out.setCell hDg9 _).setCell hDg9 _).setCell hDg9 _).cell (p := ⟨bb, oo2 + kk * 3, none⟩) hxl |>.trans HX0.out, (((B5.out.setCell hDg9 _).setCell hDg9 _).setCell hDg9 _).cell (p := ⟨bb, oo2 + kk * 3 + 1, none⟩) hxl |>.trans HX1.out, (((B5.out.setCell hDg9 _).setCell hDg9 _).setCell hDg9 _).cell (p := ⟨bb, oo2 + kk * 3 + 2, none⟩) hxl |>.trans HX2.out⟩) | go_keep)
            (first
              | (go_at_call 38; (with_reducible refine (HD.out _ ?_).mono ?_); (exact below_drewN (RowKit.Below.refl _ _) _); rintro e w5 ⟨rfl, hb5⟩; have b5 := below_undrew hb5; have v3 := (b5.cell (p := ⟨w.heap.size, 0, none⟩) hbl).trans HBX.out; have v0 := (b5.cell (p := ⟨bb, oo2 + kk * 3, none⟩) hxl).trans HX0.out; have v1 := (b5.cell (p := ⟨bb, oo2 + kk * 3 + 1, none⟩) hxl).trans HX1.out; have v2 := (b5.cell (p := ⟨bb, oo2 + kk * 3 + 2, none⟩) hxl).trans HX2.out; have B5 := Lib.hid b5; have hz5 := b5.size; clear b5 hb5)
              | (go_at_call 38; (with_reducible refine (HD.out _ ?_).mono ?_); (exact (below_drewN (RowKit.Below.refl _ _) _).alloc (by simp) _); rintro e w5 ⟨rfl, hb5⟩; have b5 := below_undrew (below_alloc0 hb5); have v3 := (b5.cell (p := ⟨w.heap.size, 0, none⟩) hbl).trans HBX.out; have v0 := (b5.cell (p := ⟨bb, oo2 + kk * 3, none⟩) hxl).trans HX0.out; have v1 := (b5.cell (p := ⟨bb, oo2 + kk * 3 + 1, none⟩) hxl).trans HX1.out; have v2 := (b5.cell (p := ⟨bb, oo2 + kk * 3 + 2, none⟩) hxl).trans HX2.out; have B5 := Lib.hid b5; have hz5 := b5.size; have hDg9 : wr.heap.size ≤ wr.heap.size := Nat.le_refl _; have hx5 : OwnRow w5 wr.heap.size [.int .i64 0, .int .i64 0, .bool false] := (OwnRow.fresh wr.drew #[.int .i64 0, .int .i64 0, .bool false] 34).below hb5 (by simp); have x5 := hx5.cell (j := 0) rfl; have x6 := hx5.cell (j := 1) rfl; have x7 := hx5.cell (j := 2) rfl; have z0 := hx5.free (j := 0) (by simp); have z1 := hx5.free (j := 1) (by simp); have z2 := hx5.free (j := 2) (by simp); have hl5 : wr.heap.size < w5.heap.size := (by have := hb5.size; simp at this; omega); have HX5 := Lib.hid hx5; clear b5 hb5))
          · rename_i hh
            clear hh
            have hx6 := OwnRow.fresh w5 #[.int .i64 d0, .int .i64 d1, .bool d2] 34
            have HW6 := Lib.hid (B5.out.alloc B5.out.size (.cells #[.int .i64 d0, .int .i64 d1, .bool d2] 34))
            have hDl : w5.heap.size < (w5.alloc (.cells #[.int .i64 d0, .int .i64 d1, .bool d2] 34)).heap.size := by simp
            clear v0 v1 v2 v3 x0 x1 x2 hbx
            generalize w5.alloc (.cells #[.int .i64 d0, .int .i64 d1, .bool d2] 34) = w6 at hx6 HW6 hDl ⊢
            have hDg := hz5
            generalize w5.heap.size = D at hx6 hDl hDg ⊢
            have c0 := hx6.cell (j := 0) rfl
            have c1 := hx6.cell (j := 1) rfl
            have c2 := hx6.cell (j := 2) rfl
            have g0 := hx6.free (j := 0) (by simp)
            have g1 := hx6.free (j := 1) (by simp)
            have g2 := hx6.free (j := 2) (by simp)
            cases ok
            · have HST8 := Lib.hid (HN.out rfl)
              have hx7 := ((hx6.set (j := 0) (by simp) (.int .i64 (kk : Int))).set (j := 1) (by simp) (.int .i64 0)).set (j := 2) (by simp) (.bool false)
              have hw7 := below_set3' HW6.out hDg (.int .i64 (kk : Int)) (.int .i64 0) (.bool false)
              have HX7 := Lib.hid hx7
              have HW7 := Lib.hid hw7
              have HC := Lib.hid (World.news_of_block (w := ((((w6.setCell ⟨D, 0, none⟩ (.int .i64 (kk : Int))).setCell ⟨D, 1, none⟩ (.int .i64 0)).setCell ⟨D, 2, none⟩ (.bool false))).alloc (.cells #[.int .i64 (kk : Int)] 3)) (cs := #[.int .i64 (kk : Int)]) (t := 3) (fr := (0, 0)) (by exact heap_alloc_new _ _))
              have hs7 := (own_below HST.out HW7.out)
              have HS7 := Lib.hid hs7
              clear hx7 hw7 hs7 hx6
              have hsz6 : wr.heap.size ≤ w6.heap.size := HW6.out.size
              go_wp2_with (at_builtin; refine wpList_append_own _ rfl _ _ 25 rfl (w2.heap.size + 1) 3 i0 (.int .i64 0) 1 8 Tryz.underlying25 hi iz0 iz1 iz2 rfl (by decide) _ _ _ rfl (World.ownsRow.alloc (by exact HS7.out) _) ⟨w6.heap.size, 0, none⟩ 1 1 [.int .i64 (kk : Int)] rfl rfl (by have := HC.out; simpa using this) (by simp [Value.oneCell']) (by unfold maxLen; omega) (by omega) (by simp; omega) ?_)
              intro v8 w8 ho8 hg8 _
              obtain ⟨a8, c8, rfl, -, -⟩ := (SlR.of_own ho8).shape
              have hw7a := HW7.out.alloc HW7.out.size (.cells #[.int .i64 (kk : Int)] 3)
              have hsz7 := hw7a.size
              have HB8 := Lib.hid ((HB.out.trans (hw7a.mono HB.out.size)).grown hg8 (by omega) (fun q hq => by have := (HST.out.lt q hq).1; omega))
              have hz8 : w2.heap.size < w8.heap.size := by have := hg8.size; omega
              have hol := OwnRow.grown (HO3.out.below hw7a hz) hg8 (by omega) (fun h => by have := (HST.out.lt _ h.symm).1; omega)
              have hx8 := OwnRow.grown (HX7.out.alloc (by simpa using hDl) (.cells #[.int .i64 (kk : Int)] 3)) hg8 (by simp; omega) (fun h => by have := (HST.out.lt _ h.symm).2; omega)
              have HS8 := Lib.hid (show w8.ownsRow (w2.heap.size + 1) 3 1 (.slice a8 (st.length + 1) c8) (st ++ [kk]).length (nats (st ++ [kk])) by rw [nats_app, List.length_append]; exact ho8)
              clear hw7a hsz7 ho8 hg8 c0 c1 c2 g0 g1 g2
              have ho8 := hol
              clear hol
              have e0 := hx8.cell (j := 0) rfl
              have e1 := hx8.cell (j := 1) rfl
              have e2 := hx8.cell (j := 2) rfl
              obtain ⟨old0, old1, old2⟩ := dvs_at ds kk (by rw [HSL.out]; exact hki)
              have k0 := ho8.cell (j := kk * 3) (by rw [Nat.mul_comm]; exact old0)
              have k1 := ho8.cell (j := kk * 3 + 1) (by rw [Nat.mul_comm]; exact old1)
              have k2 := ho8.cell (j := kk * 3 + 2) (by rw [Nat.mul_comm]; exact old2)
              clear old0 old1 old2
              have f0 := ho8.free (j := kk * 3) (by rw [dvs_len, HSL.out]; omega)
              have f1 := ho8.free (j := kk * 3 + 1) (by rw [dvs_len, HSL.out]; omega)
              have f2 := ho8.free (j := kk * 3 + 2) (by rw [dvs_len, HSL.out]; omega)
              have HO8 := Lib.hid ho8
              clear ho8 hx8
              go_wp2_with fail
              go_roundw
              case rel => exact ⟨q + 1, by omega, by go_num, below_put HB8.out (Nat.le_refl _) _ _ _ _ _ _, by simp only [World.size_setCell]; omega, by rw [HRUN.out, HST8.out]; exact ownRow_put HO8.out (by rw [HSL.out]; exact hki) ((kk : Int), 0, false), by rw [HRUN.out, HST8.out]; exact ownsRow_put HS8.out (by omega) _ _ _ _ _ _⟩
              case measure => simp [intOf]; omega
            · have HST8 := Lib.hid (HT.out rfl)
              have hx8 := hx6
              have HW8 := HW6
              have HS8 := Lib.hid (own_below HST.out HW6.out)
              have hsz6 : wr.heap.size ≤ w6.heap.size := HW6.out.size
              have HB8 := Lib.hid (HB.out.trans (HW6.out.mono HB.out.size))
              have ho8 := HO3.out.below HW6.out hz
              clear hx6 c0 c1 c2 g0 g1 g2
              have e0 := hx8.cell (j := 0) rfl
              have e1 := hx8.cell (j := 1) rfl
              have e2 := hx8.cell (j := 2) rfl
              obtain ⟨old0, old1, old2⟩ := dvs_at ds kk (by rw [HSL.out]; exact hki)
              have k0 := ho8.cell (j := kk * 3) (by rw [Nat.mul_comm]; exact old0)
              have k1 := ho8.cell (j := kk * 3 + 1) (by rw [Nat.mul_comm]; exact old1)
              have k2 := ho8.cell (j := kk * 3 + 2) (by rw [Nat.mul_comm]; exact old2)
              clear old0 old1 old2
              have f0 := ho8.free (j := kk * 3) (by rw [dvs_len, HSL.out]; omega)
              have f1 := ho8.free (j := kk * 3 + 1) (by rw [dvs_len, HSL.out]; omega)
              have f2 := ho8.free (j := kk * 3 + 2) (by rw [dvs_len, HSL.out]; omega)
              have HO8 := Lib.hid ho8
              clear ho8 hx8
              go_wp2_with fail
              go_roundw
              case rel => exact ⟨q + 1, by omega, by go_num, below_put HB8.out (Nat.le_refl _) _ _ _ _ _ _, by simp only [World.size_setCell]; omega, by rw [HRUN.out, HST8.out]; exact ownRow_put HO8.out (by rw [HSL.out]; exact hki) (d0, d1, d2), by rw [HRUN.out, HST8.out]; exact ownsRow_put HS8.out (by omega) _ _ _ _ _ _⟩
              case measure => simp [intOf]; omega
          · rename_i hh
            clear hh
            have hx6 := ((HX5.out.set (j := 0) (by simp) (.int .i64 d0)).set (j := 1) (by simp) (.int .i64 d1)).set (j := 2) (by simp) (.bool d2)
            have HW6 := Lib.hid (below_set3' B5.out hDg9 (.int .i64 d0) (.int .i64 d1) (.bool d2))
            have hDl : wr.heap.size < (((w5.setCell ⟨wr.heap.size, 0, none⟩ (.int .i64 d0)).setCell ⟨wr.heap.size, 1, none⟩ (.int .i64 d1)).setCell ⟨wr.heap.size, 2, none⟩ (.bool d2)).heap.size := by simpa using hl5
            clear v0 v1 v2 v3 x0 x1 x2 hbx hx5 x5 x6 x7 z0 z1 z2
            generalize ((w5.setCell ⟨wr.heap.size, 0, none⟩ (.int .i64 d0)).setCell ⟨wr.heap.size, 1, none⟩ (.int .i64 d1)).setCell ⟨wr.heap.size, 2, none⟩ (.bool d2) = w6 at hx6 HW6 hDl ⊢
            have hDg := hDg9
            obtain ⟨D, hD⟩ : ∃ D, D = wr.heap.size := ⟨_, rfl⟩
            rw [← hD] at hx6 hDl ⊢
            replace hDg : wr.heap.size ≤ D := by omega
            clear hD
            have c0 := hx6.cell (j := 0) rfl
            have c1 := hx6.cell (j := 1) rfl
            have c2 := hx6.cell (j := 2) rfl
            have g0 := hx6.free (j := 0) (by simp)
            have g1 := hx6.free (j := 1) (by simp)
            have g2 := hx6.free (j := 2) (by simp)
            cases ok
            · have HST8 := Lib.hid (HN.out rfl)
              have hx7 := ((hx6.set (j := 0) (by simp) (.int .i64 (kk : Int))).set (j := 1) (by simp) (.int .i64 0)).set (j := 2) (by simp) (.bool false)
              have hw7 := below_set3' HW6.out hDg (.int .i64 (kk : Int)) (.int .i64 0) (.bool false)
              have HX7 := Lib.hid hx7
              have HW7 := Lib.hid hw7
              have HC := Lib.hid (World.news_of_block (w := ((((w6.setCell ⟨D, 0, none⟩ (.int .i64 (kk : Int))).setCell ⟨D, 1, none⟩ (.int .i64 0)).setCell ⟨D, 2, none⟩ (.bool false))).alloc (.cells #[.int .i64 (kk : Int)] 3)) (cs := #[.int .i64 (kk : Int)]) (t := 3) (fr := (0, 0)) (by exact heap_alloc_new _ _))
              have hs7 := (own_below HST.out HW7.out)
              have HS7 := Lib.hid hs7
              clear hx7 hw7 hs7 hx6
              have hsz6 : wr.heap.size ≤ w6.heap.size := HW6.out.size
              go_wp2_with (at_builtin; refine wpList_append_own _ rfl _ _ 25 rfl (w2.heap.size + 1) 3 i0 (.int .i64 0) 1 8 Tryz.underlying25 hi iz0 iz1 iz2 rfl (by decide) _ _ _ rfl (World.ownsRow.alloc (by exact HS7.out) _) ⟨w6.heap.size, 0, none⟩ 1 1 [.int .i64 (kk : Int)] rfl rfl (by have := HC.out; simpa using this) (by simp [Value.oneCell']) (by unfold maxLen; omega) (by omega) (by simp; omega) ?_)
              intro v8 w8 ho8 hg8 _
              obtain ⟨a8, c8, rfl, -, -⟩ := (SlR.of_own ho8).shape
              have hw7a := HW7.out.alloc HW7.out.size (.cells #[.int .i64 (kk : Int)] 3)
              have hsz7 := hw7a.size
              have HB8 := Lib.hid ((HB.out.trans (hw7a.mono HB.out.size)).grown hg8 (by omega) (fun q hq => by have := (HST.out.lt q hq).1; omega))
              have hz8 : w2.heap.size < w8.heap.size := by have := hg8.size; omega
              have hol := OwnRow.grown (HO3.out.below hw7a hz) hg8 (by omega) (fun h => by have := (HST.out.lt _ h.symm).1; omega)
              have hx8 := OwnRow.grown (HX7.out.alloc (by simpa using hDl) (.cells #[.int .i64 (kk : Int)] 3)) hg8 (by simp; omega) (fun h => by have := (HST.out.lt _ h.symm).2; omega)
              have HS8 := Lib.hid (show w8.ownsRow (w2.heap.size + 1) 3 1 (.slice a8 (st.length + 1) c8) (st ++ [kk]).length (nats (st ++ [kk])) by rw [nats_app, List.length_append]; exact ho8)
              clear hw7a hsz7 ho8 hg8 c0 c1 c2 g0 g1 g2
              have ho8 := hol
              clear hol
              have e0 := hx8.cell (j := 0) rfl
              have e1 := hx8.cell (j := 1) rfl
              have e2 := hx8.cell (j := 2) rfl
              obtain ⟨old0, old1, old2⟩ := dvs_at ds kk (by rw [HSL.out]; exact hki)
              have k0 := ho8.cell (j := kk * 3) (by rw [Nat.mul_comm]; exact old0)
              have k1 := ho8.cell (j := kk * 3 + 1) (by rw [Nat.mul_comm]; exact old1)
              have k2 := ho8.cell (j := kk * 3 + 2) (by rw [Nat.mul_comm]; exact old2)
              clear old0 old1 old2
              have f0 := ho8.free (j := kk * 3) (by rw [dvs_len, HSL.out]; omega)
              have f1 := ho8.free (j := kk * 3 + 1) (by rw [dvs_len, HSL.out]; omega)
              have f2 := ho8.free (j := kk * 3 + 2) (by rw [dvs_len, HSL.out]; omega)
              have HO8 := Lib.hid ho8
              clear ho8 hx8
              go_wp2_with fail
              go_roundw
              case rel => exact ⟨q + 1, by omega, by go_num, below_put HB8.out (Nat.le_refl _) _ _ _ _ _ _, by simp only [World.size_setCell]; omega, by rw [HRUN.out, HST8.out]; exact ownRow_put HO8.out (by rw [HSL.out]; exact hki) ((kk : Int), 0, false), by rw [HRUN.out, HST8.out]; exact ownsRow_put HS8.out (by omega) _ _ _ _ _ _⟩
              case measure => simp [intOf]; omega
            · have HST8 := Lib.hid (HT.out rfl)
              have hx8 := hx6
              have HW8 := HW6
              have HS8 := Lib.hid (own_below HST.out HW6.out)
              have hsz6 : wr.heap.size ≤ w6.heap.size := HW6.out.size
              have HB8 := Lib.hid (HB.out.trans (HW6.out.mono HB.out.size))
              have ho8 := HO3.out.below HW6.out hz
              clear hx6 c0 c1 c2 g0 g1 g2
              have e0 := hx8.cell (j := 0) rfl
              have e1 := hx8.cell (j := 1) rfl
              have e2 := hx8.cell (j := 2) rfl
              obtain ⟨old0, old1, old2⟩ := dvs_at ds kk (by rw [HSL.out]; exact hki)
              have k0 := ho8.cell (j := kk * 3) (by rw [Nat.mul_comm]; exact old0)
              have k1 := ho8.cell (j := kk * 3 + 1) (by rw [Nat.mul_comm]; exact old1)
              have k2 := ho8.cell (j := kk * 3 + 2) (by rw [Nat.mul_comm]; exact old2)
              clear old0 old1 old2
              have f0 := ho8.free (j := kk * 3) (by rw [dvs_len, HSL.out]; omega)
              have f1 := ho8.free (j := kk * 3 + 1) (by rw [dvs_len, HSL.out]; omega)
              have f2 := ho8.free (j := kk * 3 + 2) (by rw [dvs_len, HSL.out]; omega)
              have HO8 := Lib.hid ho8
              clear ho8 hx8
              go_wp2_with fail
              go_roundw
              case rel => exact ⟨q + 1, by omega, by go_num, below_put HB8.out (Nat.le_refl _) _ _ _ _ _ _, by simp only [World.size_setCell]; omega, by rw [HRUN.out, HST8.out]; exact ownRow_put HO8.out (by rw [HSL.out]; exact hki) (d0, d1, d2), by rw [HRUN.out, HST8.out]; exact ownsRow_put HS8.out (by omega) _ _ _ _ _ _⟩
              case measure => simp [intOf]; omega
        · obtain rfl : q = L.length := by omega
          have htk : (ordF (L.map Prod.fst)).take L.length = ordF (L.map Prod.fst) := by rw [← hol, List.take_length]
          have hfi := find_mem (L.map Prod.fst)
          have hln := runF_len (L.map Prod.fst) (ordF (L.map Prod.fst))
          have hsl8 := (find_len8 (L.map Prod.fst))
          have HF2 := Lib.hid (show findR (L.map Prod.fst) = (storedR (L.map Prod.fst), dersR (L.map Prod.fst)) by unfold findR; rw [List.all_map, if_pos (show L.all (svS ∘ Prod.fst) = true from HALL.out)])
          have hst0 := HST.out
          have hd0 := HO3.out
          rw [htk] at hst0 hd0 ⊢
          clear HO3 HST htk hol
          have hsd : storedR (L.map Prod.fst) = (runF (L.map Prod.fst) (ordF (L.map Prod.fst))).1.mergeSort fun x y => decide (x ≤ y) := rfl
          have hdd : dersR (L.map Prod.fst) = (runF (L.map Prod.fst) (ordF (L.map Prod.fst))).2.map (renum (storedR (L.map Prod.fst))) := rfl
          rw [show keptF (L.map Prod.fst) = (runF (L.map Prod.fst) (ordF (L.map Prod.fst))).1 from rfl] at hsl8
          generalize runF (L.map Prod.fst) (ordF (L.map Prod.fst)) = σ at hfi hln hsl8 hst0 hd0 hsd hdd ⊢
          generalize storedR (L.map Prod.fst) = ST at hfi hsd hdd HF2
          generalize dersR (L.map Prod.fst) = DD at hdd HF2
          obtain ⟨st, ds⟩ := σ
          dsimp only at hfi hln hsl8 hst0 hd0 hsd hdd ⊢
          rw [List.length_map] at hln hsl8
          have HSO4 := Lib.hid (sort_nats (w2.heap.size + 1) (.slice asl st.length cs) st wr hst0 (by omega))
          rw [← hsd] at HSO4
          have HFI := Lib.hid hfi
          have HDD := Lib.hid hdd
          have HLN := Lib.hid hln
          have HD0 := Lib.hid hd0
          have HLT := Lib.hid hst0.lt
          have hstl : ST.length = st.length := by rw [hsd, List.length_mergeSort]
          have hsT8 : ST.length ≤ 8 := by omega
          clear hfi hdd hln hd0 hst0 hsd hstl
          go_wp2_with fail
          refine HSO4.out.mono ?_
          rintro e w4 ⟨rfl, ho4, hg4⟩
          have HB4 := Lib.hid (HB.out.grown hg4 HB.out.size (fun q hq => by have := (HLT.out q hq).1; omega))
          have HD4 := Lib.hid (OwnRow.grown HD0.out hg4 hz (fun h => by have := (HLT.out _ h.symm).1; omega))
          have hz4 : w2.heap.size < w4.heap.size := by have := hg4.size; omega
          have HO4 := Lib.hid ho4
          clear ho4 hg4 HB HD0 HSO4
          go_wp2_with fail
          go_loopw [70] (fun i wr => ∃ (p : Nat), p ≤ L.length ∧ i = .int .i64 p ∧ RowKit.Below w2.heap.size w2 wr ∧ w2.heap.size < wr.heap.size ∧ OwnRow wr w2.heap.size (dvs (renL ST ds p)) ∧ wr.ownsRow (w2.heap.size + 1) 3 1 (.slice asl st.length cs) ST.length (nats ST))
            (fun i _ => L.length - (intOf i).toNat)
          case atStart => exact ⟨0, Nat.zero_le _, rfl, HB4.out, hz4, by have := HD4.out; simpa [renL] using this, HO4.out⟩
          case round =>
            obtain ⟨p, hp, rfl, hb, hz5, hd5, ho5⟩ := hrel
            have HB5 := Lib.hid hb
            have HD5 := Lib.hid hd5
            have HO5 := Lib.hid ho5
            clear hb hd5 ho5 HB4 HD4 HO4
            by_cases hlp : p < L.length
            · have hpd : p < ds.length := by rw [HLN.out]; exact hlp
              have hpr : p < (renL ST ds p).length := by rw [renL_len]; exact hpd
              have hat : (renL ST ds p)[p] = ds[p] := Option.some.inj ((List.getElem?_eq_getElem hpr).symm.trans (renL_at hpd))
              obtain ⟨old0, old1, old2⟩ := dvs_at (renL ST ds p) p hpr
              rw [hat] at old0 old1 old2
              have k0 := HD5.out.cell (j := p * 3) (by rw [Nat.mul_comm]; exact old0)
              have f0 := HD5.out.free (j := p * 3) (by rw [dvs_len, renL_len]; omega)
              have HST := Lib.hid (renL_step (ST := ST) hpd)
              have hme := HFI.out ds[p] (List.getElem_mem hpd)
              have HRL := Lib.hid (show ∀ x : Value, (dvs (renL ST ds p)).set (p * 3) x = (((dvs (renL ST ds p)).set (3 * p) x).set (3 * p + 1) (.int .i64 ds[p].2.1)).set (3 * p + 2) (.bool ds[p].2.2) from fun x => by
                rw [Nat.mul_comm p 3]
                symm
                rw [set_same (l := (dvs (renL ST ds p)).set (3 * p) x) (i := 3 * p + 1) (by rw [List.getElem?_set_ne (by omega)]; exact old1)]
                rw [set_same (by rw [List.getElem?_set_ne (by omega)]; exact old2)])
              have hat2 := renL_at (ST := ST) hpd
              generalize ds[p] = d at k0 HST hme HRL hat2
              obtain ⟨do_, df, di⟩ := d
              dsimp only at k0 hme HRL
              clear old0 old1 old2 hat hpr
              by_cases hm1 : do_ = -1
              · subst hm1
                have HST2 := Lib.hid (show dvs (renL ST ds (p + 1)) = dvs (renL ST ds p) by
                  rw [HST.out, show renum ST (-1, df, di) = (-1, df, di) from if_pos rfl, set_same hat2])
                clear hme hat2
                go_wp2_with fail
                go_roundw
                case rel => exact ⟨p + 1, by omega, by go_num, HB5.out, hz5, by rw [HST2.out]; exact HD5.out, HO5.out⟩
                case measure => simp [intOf]; omega
              · obtain ⟨k, hk, hkm⟩ := hme.resolve_left hm1
                subst hk
                have hm2 : ((k : Int) != -1) = true := by rw [bne_iff_ne]; omega
                have HIX := Lib.hid (index_nats (.slice asl st.length cs) ST k wr (SlR.of_own HO5.out) hkm (by omega))
                have HST2 := Lib.hid (show renL ST ds (p + 1) = (renL ST ds p).set p (((ST.idxOf k : Nat) : Int), df, di) by
                  rw [HST.out]
                  congr 1)
                clear hm1 hat2
                go_wp2_with fail
                refine HIX.out.mono ?_
                rintro e w6 ⟨rfl, rfl⟩
                go_wp2_with fail
                go_roundw
                case rel => exact ⟨p + 1, by omega, by go_num, HB5.out.setCell (Nat.le_refl _) _, by simpa using hz5, by
                  rw [HST2.out, ← dvs_set, ← HRL.out]
                  exact HD5.out.set (by rw [dvs_len, renL_len, HLN.out]; omega) _, ownsRow_setCell_below HO5.out (show w2.heap.size < _ from Nat.lt_succ_self _) _⟩
                case measure => simp [intOf]; omega
            · obtain rfl : p = L.length := by omega
              go_wp2_with fail
              refine bodyPost_ret (v := .tuple #[.slice asl st.length cs, .slice (some ⟨w2.heap.size, 0, none⟩) L.length L.length]) (by simp [results, Tryz.results10, go_sem]) rfl ?_
              rw [HF2.out]
              have hdl : DD.length = L.length := by rw [HDD.out, List.length_map, HLN.out]
              have hrd : OwnRow wr w2.heap.size (dvs DD) := by
                have := HD5.out
                rw [← HLN.out, renL_end, ← HDD.out] at this
                exact this
              have hw2 := HB2.out.size
              refine ⟨_, _, rfl, ownsRow_base HO5.out (by omega), ?_, HB2.out.trans (HB5.out.mono hw2)⟩
              rw [hdl]
              exact ⟨some ⟨w2.heap.size, 0, none⟩, L.length, rfl, Nat.le_refl _, by unfold maxLen; omega, fun h => by simp at h, fun _ => ⟨w2.heap.size, 0, rfl, fun j u hj => by rw [Nat.zero_add]; exact hrd.cell hj⟩⟩
end Go.Proofs.YtimeilkelnljnaaGreatDoor
