/- The law ChangesUnknown, walked. -/
import Derived.Test.YtgnkjcdkfcikeaaGreatDoorLret
import Derived.Laws.AppendOwnNone
namespace Go.Proofs.YtgnkjcdkfcikeaaGreatDoor
open Go.RowKit
set_option linter.unusedSimpArgs false

theorem SlR.news {w : World} {ad : Addr} {n cap : Nat} {xs : List Value} (h : SlR w (.slice (some ad) n cap) n xs) (hx : n = 0 → xs = []) : ∀ j u, xs[j]? = some u → w.cell? (ad.add j) = some u := by
  intro j u hj
  rcases Nat.eq_zero_or_pos n with h0 | h0
  · rw [hx h0] at hj; simp at hj
  · obtain ⟨b, o, cap', hv, -, -, hc⟩ := h.at h0
    injection hv with e1 _ _
    injection e1 with e1
    subst e1
    rw [addr_add]; exact hc j u hj
/-- append of a slice, nil or not, onto what is owned -/
theorem wpList_append_sl {P : Program} (w : World) {ops : Array Oper} {rest : List Oper} {o : Oper} {a : Act} {Q : Exit → Act → World → Prop} (hgd : o.guard = none) (s x : Operand) (t : TypeId)
    (ho : o.op = .call { callee := .builtin .append, args := #[s, x], argTypes := #[t, t] })
    (base : Nat) (e : TypeId) (i : TypeInfo) (z : Value) (size bytes : Nat) (ht : P.underlying t = some (.slice e)) (hi : P.info? e = some i) (hz : i.zero = some z)
    (hsize : i.size = size) (hby : i.bytes = bytes) (hzs : z.cells.size = size) (hsz : 0 < size)
    (v : Value) (n : Nat) (xs : List Value) (hs : a.eval s = v) (hown : w.ownsRow base e size v n xs)
    (ad : Option Addr) (m c : Nat) (news : List Value) (hx : a.eval x = .slice ad m c) (hsl : SlR w (.slice ad m c) m news) (hl : news.length = m * size) (h1 : ∀ u ∈ news, u.oneCell' = true)
    (h63 : n + m ≤ maxLen) (hbytes : (n + m) * bytes ≤ 140737488355328) (hbase : base ≤ w.heap.size)
    (h : ∀ v' w', w'.ownsRow base e size v' (n + m) (xs ++ news) → w.grownBy w' v.ownBlock → wpList P ops Q rest (a.put o.dst v') w') : wpList P ops Q (o :: rest) a w := by
  cases ad with
  | none =>
    obtain ⟨a', cap', hv, hc1, hc2, hc3, -⟩ := hsl
    injection hv with e1 _ e3
    have h0 := hc3 e1.symm
    have hm : m = 0 := by omega
    have hc : c = 0 := by omega
    subst hm hc
    have hn : news = [] := List.length_eq_zero_iff.1 (by omega)
    subst hn
    refine wpList_append_own_none hgd s x t ho base e i size ht hi v n xs hs hown hx (h v w ?_ (World.grownBy.refl _ _))
    simpa using hown
  | some ad =>
    exact wpList_append_own w hgd s x t ho base e i z size bytes ht hi hz hsize hby hzs hsz v n xs hs hown ad m c news hx hl
      (hsl.news (fun h0 => by subst h0; exact List.length_eq_zero_iff.1 (by omega))) h1 h63 hbytes hbase (fun v' w' h2 h3 _ => h v' w' h2 h3)
theorem kn_none {L : List Dcl} {c : Bs} (h : ∀ d ∈ L, d.code ≠ c) : knL cv (L.map Dcl.dc) c = none := by
  unfold knL
  rw [List.find?_eq_none]
  intro x hx
  obtain ⟨d, hd, rfl⟩ := List.mem_map.1 hx
  have := h d hd
  simp only [Bool.and_eq_true, decide_eq_true_iff, not_and]
  exact fun _ => this
theorem wds_one : ∀ (l : List Wd), ∀ u ∈ wds l, u.oneCell' = true
  | [], u, hu => by simp [wds] at hu
  | x :: l, u, hu => by
    rw [wds_cons] at hu
    rcases List.mem_append.1 hu with hu | hu
    · simp only [wdC, List.mem_cons, List.mem_nil_iff, or_false] at hu
      rcases hu with rfl | rfl | rfl | rfl <;> rfl
    · exact wds_one l u hu
theorem prb_size (w : World) : (Go.sizeOf 42).run Tryz.prog w = .ok 4 w := by kernel_rfl
/-- 'l[1:]', its value not looked into -/
theorem prb_tail (b o cap : Nat) (x : Pb) (l : List Pb) (W : World) (h : SlR W (.slice (some ⟨b, o, none⟩) (l.length + 1) cap) (l.length + 1) (prbs (x :: l))) :
    ∃ ad c, (∀ w, (Instr.slice 28 (.slice (some ⟨b, o, none⟩) (l.length + 1) cap) (some (.int .i64 1)) none none).run Tryz.prog w = .ok (.slice ad l.length c) w) ∧ SlR W (.slice ad l.length c) l.length (prbs l) := by
  have hl : l.length + 1 ≤ cap ∧ cap ≤ maxLen := by
    obtain ⟨a', cap', hv, h1, h2⟩ := h.shape
    injection hv with _ _ e3
    subst e3
    exact ⟨h1, h2⟩
  refine ⟨if cap = 1 then some ⟨b, o, none⟩ else some ⟨b, o + 4, none⟩, cap - 1, fun w => ?_, ?_⟩
  · have ht : Tryz.prog.underlying 28 = some (.slice 42) := Tryz.underlying28
    have ht' : Tryz.prog.underlying 28 = some (.slice (Tryz.prog.elem 28)) := by simp [Program.elem, ht]
    have he : Tryz.prog.elem 28 = 42 := by simp [Program.elem, ht]
    rw [run_slice_l w 28 (some ⟨b, o, none⟩) (l.length + 1) cap ht' .i64 _ (by omega) (by omega), he, prb_size]
    simp only [Result.andThen, sliced, Nat.add_sub_cancel]
    rfl
  · refine ⟨_, _, rfl, by omega, by omega, fun hh => ?_, fun hn => ?_⟩
    · split at hh <;> cases hh
    · obtain ⟨b', o', cap', hv, -, -, hc⟩ := h.at (by omega)
      injection hv with e1 _ _
      injection e1 with e1
      injection e1 with e1 e2 _
      subst e1 e2
      refine ⟨b, o + 4, by rw [if_neg (by omega)], fun j u hj => ?_⟩
      have := hc (4 + j) u (by rw [prbs_cons, List.getElem?_append_right (by simp [prbC])]; simpa [prbC] using hj)
      rwa [← Nat.add_assoc] at this
set_option maxHeartbeats 1600000 in
set_option maxRecDepth 100000 in
theorem law_ChangesUnknown (v v2 : Value) (ws : List Wd) (L : List Dcl) (n : Nat) (w : World) (hn : n < 256) (hg : Glob w) (he : GlobE w) (hs : SlR w v ws.length (wds ws)) (hd : SlR w v2 L.length (dcls L))
    (hr : ∀ x ∈ ws, x.1.length ≤ 140737488351232) (ht : ∀ d ∈ L, d.nm.length ≤ 140737488351232 ∧ d.code.length ≤ 140737488351232) :
    Calls Tryz.prog 6 #[v, v2, .int .u8 (n : Int)] w fun e w' => e = .returned (.bool true) ∧ Below w.heap.size w w' := by
  obtain ⟨a, cap, rfl, hcap, hmax⟩ := hs.shape
  obtain ⟨a2, cap2, rfl, hcap2, hmax2⟩ := hd.shape
  have HS := Lib.hid hs
  have HD := Lib.hid hd
  have HG := Lib.hid hg
  have HE := Lib.hid he
  have HR := Lib.hid hr
  have HT := Lib.hid ht
  clear hs hd hg he hr ht
  go_enter Tryz.func6, Tryz.ntmps6
  go_wp2_with fail
  refine (law_awake26 _ HG.out HE.out).mono ?_
  rintro e w1 ⟨rfl, hb1⟩
  have HB1 := Lib.hid hb1
  clear hb1
  by_cases h120 : (120 : Int) < (ws.length : Int)
  · have hd0 : decide ((120 : Int) < (ws.length : Int)) = true := decide_eq_true h120
    clear h120
    go_wp2_with fail
    go_ret
    exact ⟨rfl, HB1.out⟩
  have hd0 : decide ((120 : Int) < (ws.length : Int)) = false := decide_eq_false h120
  have HWL := Lib.hid (show ws.length ≤ 120 by omega)
  clear h120
  go_wp2_with fail
  refine (ref_Few26 _ _ [] L w1 (SlR.nil w1) (HD.out.below HB1.out) (by simp) HT.out).mono ?_
  rintro e w2 ⟨bf, rfl, hb2, hfew⟩
  have HB2 := Lib.hid (ext_trans HB1.out hb2)
  have HFE := Lib.hid hfew
  clear hb2 hfew
  cases bf
  · go_wp2_with fail
    go_ret
    exact ⟨rfl, HB2.out⟩
  have HF := Lib.hid (HFE.out rfl)
  clear HFE
  have HFL := Lib.hid (few_len HF.out)
  go_wp2_with fail
  refine (ref_Find _ L [110, 111, 110, 101] w2 (HD.out.below HB2.out) HFL.out).mono ?_
  rintro e w3 ⟨i, rfl, rfl, ⟨rfl, hno⟩ | ⟨q, hq, rfl, hqc⟩⟩
  rotate_left
  · have hq0 : decide ((0 : Int) ≤ (q : Int)) = true := by rw [decide_eq_true_iff]; omega
    clear hqc hq
    go_wp2_with fail
    go_ret
    exact ⟨rfl, HB2.out⟩
  have HKN := Lib.hid (kn_none hno)
  clear hno hd0
  go_upto_region 5 with fail
  go_cut [7] (fun p wc => ∃ c, p = .pointer (some ⟨w3.heap.size + 1, 0, none⟩) ∧ scalarC c = true ∧ OwnRow wc (w3.heap.size + 1) [.string (bsB [c, 110, 111, 110, 101]), .int .i64 7, .int .i64 0, .int .i64 0] ∧ Below w3.heap.size w3 wc)
  case first =>
    rcases (show n % 3 = 0 ∨ n % 3 = 1 ∨ n % 3 = 2 by omega) with h | h | h
    · have hm : ((n : Int)).tmod 3 = 0 := by rw [Int.tmod_eq_emod_of_nonneg (by omega)]; omega
      clear h
      have hrow := OwnRow.fresh (w3.alloc (.cells #[.string ⟨#[48, 110, 111, 110, 101]⟩, .string ⟨#[120, 110, 111, 110, 101]⟩, .string ⟨#[90, 110, 111, 110, 101]⟩] 9)) #[.string ⟨#[48, 110, 111, 110, 101]⟩, .int .i64 7, .int .i64 0, .int .i64 0] 39
      simp only [World.size_alloc] at hrow
      have HR5 := Lib.hid hrow
      clear hrow
      go_wp2_with fail
      go_meet
      case rel => exact ⟨48, rfl, by decide, HR5.out, ((Below.refl _ _).alloc (Nat.le_refl _) _).alloc (by simp) _⟩
    · have hm : ((n : Int)).tmod 3 = 1 := by rw [Int.tmod_eq_emod_of_nonneg (by omega)]; omega
      clear h
      have hrow := OwnRow.fresh (w3.alloc (.cells #[.string ⟨#[48, 110, 111, 110, 101]⟩, .string ⟨#[120, 110, 111, 110, 101]⟩, .string ⟨#[90, 110, 111, 110, 101]⟩] 9)) #[.string ⟨#[120, 110, 111, 110, 101]⟩, .int .i64 7, .int .i64 0, .int .i64 0] 39
      simp only [World.size_alloc] at hrow
      have HR5 := Lib.hid hrow
      clear hrow
      go_wp2_with fail
      go_meet
      case rel => exact ⟨120, rfl, by decide, HR5.out, ((Below.refl _ _).alloc (Nat.le_refl _) _).alloc (by simp) _⟩
    · have hm : ((n : Int)).tmod 3 = 2 := by rw [Int.tmod_eq_emod_of_nonneg (by omega)]; omega
      clear h
      have hrow := OwnRow.fresh (w3.alloc (.cells #[.string ⟨#[48, 110, 111, 110, 101]⟩, .string ⟨#[120, 110, 111, 110, 101]⟩, .string ⟨#[90, 110, 111, 110, 101]⟩] 9)) #[.string ⟨#[90, 110, 111, 110, 101]⟩, .int .i64 7, .int .i64 0, .int .i64 0] 39
      simp only [World.size_alloc] at hrow
      have HR5 := Lib.hid hrow
      clear hrow
      go_wp2_with fail
      go_meet
      case rel => exact ⟨90, rfl, by decide, HR5.out, ((Below.refl _ _).alloc (Nat.le_refl _) _).alloc (by simp) _⟩
  case rest =>
  obtain ⟨c, rfl, hc, hrow, hb⟩ := hcut
  have hz5 : w3.heap.size + 1 < wc.heap.size := cell_lt (hrow.cell (j := 0) rfl)
  have HC := Lib.hid hc
  have HROW := Lib.hid hrow
  have HB3 := Lib.hid (ext_trans HB2.out hb)
  have HRU := Lib.hid (read_unknown (V := cv) (l := L.map Dcl.dc) (w := (([c, 110, 111, 110, 101], 7, 0, 0) : Wd)) rfl hc (by simp) HKN.out ws)
  have HRS := Lib.hid (read_skipped (V := cv) (l := L.map Dcl.dc) (w1 := (([35, 120], 3, 0, 0) : Wd)) (w2 := (([c, 110, 111, 110, 101], 7, 0, 0) : Wd)) (w3 := (([35, 48], 0, 0, 0) : Wd)) rfl rfl hc (by simp) rfl)
  clear hc hrow hb
  obtain ⟨i0, hi, iz0, iz1, iz2⟩ := info_parts (P := Tryz.prog) wd_info
  go_wp2_with fail
  refine (ch_Parse _ _ ws L wc (HS.out.below HB3.out) (HD.out.below HB3.out) (HG.out.below HB3.out) (HE.out.below HB3.out) (few_code HF.out) HFL.out (by have := HWL.out; omega) HR.out).mono ?_
  rintro e w4 ⟨vo, vr, rfl, ho, hp, hb4⟩
  have hso := SlR.of_own ho
  have hsr := SlR.of_own hp
  have hpl := (parse_len cv (L.map Dcl.dc) ws).2
  have HB4 := Lib.hid (ext_trans HB3.out hb4)
  have hrow4 := HROW.out.below hb4 hz5
  have hz4 := Nat.lt_of_lt_of_le hz5 hb4.size
  generalize (parseL cv (L.map Dcl.dc) ws).out = O at hso HRU
  generalize (parseL cv (L.map Dcl.dc) ws).wrong = Wr at hsr HRU hpl
  obtain ⟨a3, c3, rfl, -, -⟩ := hso.shape
  obtain ⟨a4, c4, rfl, -, -⟩ := hsr.shape
  have HO := Lib.hid hso
  have HP := Lib.hid hsr
  have HROW4 := Lib.hid hrow4
  have HPL := Lib.hid (show Wr.length ≤ 120 by have := HWL.out; omega)
  have HS4 := Lib.hid (HS.out.below HB4.out)
  have HAL := Lib.hid ((Below.refl w4.heap.size w4).alloc (Nat.le_refl _) (.cells #[.string (bsB [c, 110, 111, 110, 101]), .int .i64 7, .int .i64 0, .int .i64 0] 39))
  have HOF := Lib.hid (own_fresh1 w4 #[.string (bsB [c, 110, 111, 110, 101]), .int .i64 7, .int .i64 0, .int .i64 0] 39 w4.heap.size 4 (Nat.le_refl _) rfl)
  have hwle := HWL.out
  have r0 := hrow4.cell (j := 0) rfl
  have r1 := hrow4.cell (j := 1) rfl
  have r2 := hrow4.cell (j := 2) rfl
  have r3 := hrow4.cell (j := 3) rfl
  clear ho hp hb4 hso hsr hrow4 hpl
  go_wp2_with (at_builtin; refine wpList_append_sl _ rfl _ _ 32 rfl w4.heap.size 39 i0 (.agg #[.string ⟨#[]⟩, .int .i64 0, .int .i64 0, .int .i64 0]) 4 40 Tryz.underlying32 hi iz0 iz1 iz2 rfl (by decide) (.slice (some ⟨w4.heap.size, 0, none⟩) 1 1) 1 _ (by rfl) HOF.out a ws.length cap (wds ws) (by rfl) (HS4.out.below HAL.out) (by rw [wds_len]; omega) (wds_one ws) (by unfold maxLen; omega) (by omega) (by simp) ?_; intro v5 w5 hown hgrow; have hs5 : SlR w5 v5 (ws.length + 1) (wds (([c, 110, 111, 110, 101], 7, 0, 0) :: ws)) := (by have := SlR.of_own hown; rw [Nat.add_comm] at this; exact this); obtain ⟨a5, c5, rfl, -, -⟩ := hs5.shape; have HS5 := Lib.hid hs5; have HB5 := Lib.hid (HAL.out.grown hgrow HAL.out.size (fun q hq => (HOF.out.lt q hq).1)); clear hown hgrow hs5)
  have HB5a := Lib.hid (ext_trans HB4.out HB5.out)
  refine (ch_Parse _ _ (([c, 110, 111, 110, 101], 7, 0, 0) :: ws) L w5 HS5.out (HD.out.below HB5a.out) (HG.out.below HB5a.out) (HE.out.below HB5a.out) (few_code HF.out) HFL.out (by rw [List.length_cons]; omega) (fun x hx => by
    rcases List.mem_cons.1 hx with rfl | hx
    · show 5 ≤ _; decide
    · exact HR.out x hx)).mono ?_
  rintro e w6 ⟨vo2, vr2, rfl, ho2, hp2, hb6⟩
  rw [HRU.out.1] at ho2
  rw [HRU.out.2] at hp2
  have hso2 := SlR.of_own ho2
  have hsr2 : SlR w6 vr2 (Wr.length + 1) (prbs ((4, 7, 0, 0) :: Wr)) := SlR.of_own hp2
  obtain ⟨a7, c7, rfl, -, -⟩ := hso2.shape
  obtain ⟨b, o, c8, rfl, hc1, hc2, hcl⟩ := hsr2.at (by omega)
  obtain ⟨ad, ct, hrun, htl⟩ := prb_tail b o c8 (4, 7, 0, 0) Wr w6 hsr2
  have k0 : w6.cell? ⟨b, o, none⟩ = some (.int .i64 4) := hcl 0 _ rfl
  have k1 : w6.cell? ⟨b, o + 1, none⟩ = some (.int .i64 7) := hcl 1 _ rfl
  have k2 : w6.cell? ⟨b, o + 2, none⟩ = some (.int .i64 0) := hcl 2 _ rfl
  have k3 : w6.cell? ⟨b, o + 3, none⟩ = some (.int .i64 0) := hcl 3 _ rfl
  have hB56 := ext_trans HB5.out hb6
  have hrow6 := HROW4.out.below hB56 hz4
  have hz6 := Nat.lt_of_lt_of_le hz4 hB56.size
  have HROW6 := Lib.hid hrow6
  have HB6 := Lib.hid (ext_trans HB4.out hB56)
  have HO6 := Lib.hid (HO.out.below hB56)
  have HP6 := Lib.hid (HP.out.below hB56)
  have HQ6 := Lib.hid hso2
  have HT6 := Lib.hid htl
  have hww : IntKind.i64.wrap ((Wr.length : Int) + 1) = (Wr.length : Int) + 1 := IntWalk.i64_in _ (by have := HPL.out; omega)
  clear ho2 hp2 hb6 hso2 hsr2 hcl htl hB56 hrow6 hc1 hc2 r0 r1 r2 r3 hwle
  go_wp2_with fail
  have HPR := Lib.hid (ref_Problems _ _ Wr Wr w6 HT6.out HP6.out)
  rw [decide_eq_true (show Wr = Wr from rfl)] at HPR
  refine HPR.out.mono ?_
  rintro e w7 ⟨rfl, hb7⟩
  have HSA := Lib.hid (ref_Same26 _ _ O O w7 (HO6.out.below hb7) (HQ6.out.below hb7))
  rw [decide_eq_true (show O = O from rfl)] at HSA
  have HB7 := Lib.hid hb7
  clear hb7 k0 k1 k2 k3 hrun
  go_wp2_with fail
  refine HSA.out.mono ?_
  rintro e w8 ⟨rfl, hb8⟩
  have hB68 := ext_trans HB7.out hb8
  have hrow8 := HROW6.out.below hB68 hz6
  have HB8 := Lib.hid (ext_trans HB6.out hB68)
  have r0 := hrow8.cell (j := 0) rfl
  have r1 := hrow8.cell (j := 1) rfl
  have r2 := hrow8.cell (j := 2) rfl
  have r3 := hrow8.cell (j := 3) rfl
  have hbx := (Below.refl w8.heap.size w8).alloc (Nat.le_refl _) (.cells #[.string ⟨#[35, 120]⟩, .int .i64 3, .int .i64 0, .int .i64 0, .string (bsB [c, 110, 111, 110, 101]), .int .i64 7, .int .i64 0, .int .i64 0, .string ⟨#[35, 48]⟩, .int .i64 0, .int .i64 0, .int .i64 0] 39)
  have HW9 := Lib.hid (own_slx (xs := wds [([35, 120], 3, 0, 0), ([c, 110, 111, 110, 101], 7, 0, 0), ([35, 48], 0, 0, 0)]) (n := 3) (cap := 3) (OwnRow.fresh w8 #[.string ⟨#[35, 120]⟩, .int .i64 3, .int .i64 0, .int .i64 0, .string (bsB [c, 110, 111, 110, 101]), .int .i64 7, .int .i64 0, .int .i64 0, .string ⟨#[35, 48]⟩, .int .i64 0, .int .i64 0, .int .i64 0] 39) rfl (Nat.le_refl _) (by decide))
  have HB9 := Lib.hid (ext_trans HB8.out hbx)
  clear hb8 hB68 hrow8 hbx hww
  go_wp2_with fail
  refine (ch_Parse _ _ [([35, 120], 3, 0, 0), ([c, 110, 111, 110, 101], 7, 0, 0), ([35, 48], 0, 0, 0)] L _ HW9.out (HD.out.below HB9.out) (HG.out.below HB9.out) (HE.out.below HB9.out) (few_code HF.out) HFL.out (show 3 ≤ 1000000 by decide) (fun x hx => by
    simp only [List.mem_cons, List.mem_nil_iff, or_false] at hx
    rcases hx with rfl | rfl | rfl
    · show 2 ≤ _; decide
    · show 5 ≤ _; decide
    · show 2 ≤ _; decide)).mono ?_
  rintro e w10 ⟨vo3, vr3, rfl, ho3, hp3, hb10⟩
  rw [HRS.out.1] at ho3
  rw [HRS.out.2] at hp3
  have hso3 : SlR w10 vo3 1 (recs [(0, 0, [], [])]) := SlR.of_own ho3
  have hsr3 : SlR w10 vr3 1 (prbs [(3, 3, 0, 0)]) := SlR.of_own hp3
  obtain ⟨a11, c11, rfl, -, -⟩ := hso3.shape
  obtain ⟨b, o, c12, rfl, -, -, hcl⟩ := hsr3.at (by decide)
  have k0 : w10.cell? ⟨b, o, none⟩ = some (.int .i64 3) := hcl 0 _ rfl
  have k1 : w10.cell? ⟨b, o + 1, none⟩ = some (.int .i64 3) := hcl 1 _ rfl
  have k2 : w10.cell? ⟨b, o + 2, none⟩ = some (.int .i64 0) := hcl 2 _ rfl
  have k3 : w10.cell? ⟨b, o + 3, none⟩ = some (.int .i64 0) := hcl 3 _ rfl
  have HB10 := Lib.hid (ext_trans HB9.out hb10)
  have hbx2 := (Below.refl w10.heap.size w10).alloc (Nat.le_refl _) (.cells #[.int .i64 0, .int .i64 0, .string ⟨#[]⟩, .string ⟨#[]⟩] 45)
  have HR11 := Lib.hid (own_slx (xs := recs [(0, 0, [], [])]) (n := 1) (cap := 1) (OwnRow.fresh w10 #[.int .i64 0, .int .i64 0, .string ⟨#[]⟩, .string ⟨#[]⟩] 45) rfl (Nat.le_refl _) (by decide))
  have HO11 := Lib.hid (hso3.below hbx2)
  have HB11 := Lib.hid (ext_trans HB10.out hbx2)
  clear ho3 hp3 hb10 hso3 hsr3 hcl hbx2 r0 r1 r2 r3
  go_wp2_with fail
  refine (ref_Same26 _ _ [(0, 0, [], [])] [(0, 0, [], [])] _ HO11.out HR11.out).mono ?_
  rw [decide_eq_true (show [((0, 0, [], []) : Rc)] = [(0, 0, [], [])] from rfl)]
  rintro e w12 ⟨rfl, hb12⟩
  have HB12 := Lib.hid (ext_trans HB11.out hb12)
  clear hb12 k0 k1 k2 k3
  go_wp2_with fail
  go_ret
  exact ⟨rfl, HB12.out⟩
end Go.Proofs.YtgnkjcdkfcikeaaGreatDoor
