import Derived.Test.YtgnkjcdkfcikeaaGreatDoorPw4
namespace Go.Proofs.YtgnkjcdkfcikeaaGreatDoor
open Go.RowKit
set_option linter.unusedSimpArgs false

theorem own_block5 {w : World} {b : Nat} {C : Array Value} {T : TypeId} (h : w.heap[b]? = some (.cells C T (0, 0))) : OwnRow w b C.toList := fun j v hj => by
  rw [Array.getElem?_toList] at hj
  exact ⟨by simp [World.cell?, h, hj], by simp [World.frozen?, h]⟩
theorem cmd_cnt (k n : Int) (id : Bs) : cmdL cv k n (vi k n).data.toList id ≠ [] ↔ cnt cv (id, k, n) = true := by
  rw [cnt_iff]
  constructor
  · intro h
    obtain ⟨h1, -, h3⟩ := cmd_ne h
    exact ⟨h1, h3⟩
  · rintro ⟨h1, h2⟩
    have h3 := cv_ok.vi_ok k n h1
    unfold cmdL
    rw [if_pos (by rw [Bool.and_eq_true, Bool.and_eq_true]; exact ⟨⟨h1, h3⟩, h2⟩)]
    split
    · intro h
      exact (code_solid h2).1 (List.append_eq_nil_iff.1 h).2
    · intro h
      cases h
theorem cmdB_empty (k n : Int) (id : Bs) : (cmdB k n (vi k n) (bsB id)).toList.isEmpty = !cnt cv (id, k, n) := by
  unfold cmdB
  rw [ByteArray.toList_eq, bsB_list, bsB_list]
  cases h : cnt cv (id, k, n)
  · have : cmdL cv k n (vi k n).data.toList id = [] := by
      refine Classical.not_not.1 fun hne => ?_
      rw [(cmd_cnt k n id).1 hne] at h
      cases h
    rw [this]
    rfl
  · have := (cmd_cnt k n id).2 h
    cases hc : cmdL cv k n (vi k n).data.toList id with
    | nil => exact absurd hc this
    | cons a l => rfl
theorem vi_size (k n : Int) : (vi k n).size ≤ 128 := by
  unfold vi
  split
  · split
    · unfold allR
      split
      · exact Nat.zero_le _
      · rename_i h
        show (List.replicate n.toNat (120 : UInt8)).toArray.size ≤ 128
        simp
        omega
    · split
      · decide
      · exact Nat.zero_le _
  · exact Nat.zero_le _
set_option maxHeartbeats 800000 in
set_option maxRecDepth 100000 in
theorem ps_counts (d : Dcl) (w : World) (hg : Glob w) (hc : d.code.length ≤ 1000) : Calls Tryz.prog 29 #[dclV d] w fun e w' => e = .returned (.bool (cnt cv d.dc)) ∧ Below w.heap.size w w' := by
  obtain ⟨n0, n1, n2, n3, n4, n5, n6, n7, n8, n9⟩ := d
  have hal : Below w.heap.size w (w.alloc (.cells #[.string (bsB n0), .int .i64 n1, .int .i64 n2, .int .i64 n3, .bool n4, .int .i64 n5, .int .i64 n6, .string (bsB n7), .int .i64 n8, .int .i64 n9] 55)) := (Below.refl _ _).alloc (Nat.le_refl _) _
  have hx := OwnRow.fresh w #[.string (bsB n0), .int .i64 n1, .int .i64 n2, .int .i64 n3, .bool n4, .int .i64 n5, .int .i64 n6, .string (bsB n7), .int .i64 n8, .int .i64 n9] 55
  have hz : w.heap.size < (w.alloc (.cells #[.string (bsB n0), .int .i64 n1, .int .i64 n2, .int .i64 n3, .bool n4, .int .i64 n5, .int .i64 n6, .string (bsB n7), .int .i64 n8, .int .i64 n9] 55)).heap.size := by simp
  generalize hw1 : w.alloc (.cells #[.string (bsB n0), .int .i64 n1, .int .i64 n2, .int .i64 n3, .bool n4, .int .i64 n5, .int .i64 n6, .string (bsB n7), .int .i64 n8, .int .i64 n9] 55) = w1 at *
  have HX := Lib.hid hx
  have HB := Lib.hid hal
  have HG := Lib.hid (hg.below hal)
  have v7 := hx.cell (j := 7) rfl
  have v8 := hx.cell (j := 8) rfl
  have v9 := hx.cell (j := 9) rfl
  have hem := cmdB_empty n8 n9 n7
  have hvs := vi_size n8 n9
  have hcs : (bsB n7).size ≤ 100000 := by rw [bsB_size]; exact Nat.le_trans hc (by decide)
  have HR := Lib.hid (show cnt cv (n7, n8, n9) = cnt cv (Dcl.dc ⟨n0, n1, n2, n3, n4, n5, n6, n7, n8, n9⟩) from rfl)
  clear hx hal hg hc
  go_enter Tryz.func29, Tryz.ntmps29
  go_wp2_with fail
  go_region_held3 (fun w' => w'.cell? ⟨w.heap.size, 7, none⟩ = some (.string (bsB n7)) ∧ w'.cell? ⟨w.heap.size, 8, none⟩ = some (.int .i64 n8) ∧ w'.cell? ⟨w.heap.size, 9, none⟩ = some (.int .i64 n9))
    (first | exact ⟨v7, v8, v9⟩ | exact ⟨x7, x8, x9⟩ | exact ⟨y7, y8, y9⟩ | go_keep)
    (first
      | (go_at_call 30; refine (val_Initial n8 n9 _).mono ?_; rintro e w2 ⟨rfl, hb2'⟩; have hb2 := below_undr hb2'; have HB2 := Lib.hid hb2; have hx2 := HX.out.below hb2 hz; have hz2 := Nat.lt_of_lt_of_le hz hb2.size; have HX2 := Lib.hid hx2; have x7 := hx2.cell (j := 7) rfl; have x8 := hx2.cell (j := 8) rfl; have x9 := hx2.cell (j := 9) rfl; clear hb2 hb2' hx2)
      | (go_at_call 28; refine (val_Command n8 n9 (vi n8 n9) (bsB n7) _ (HG.out.below HB2.out) (by omega) hcs).mono ?_; rintro e w3 ⟨rfl, hb3⟩; have HB3 := Lib.hid (ext_trans HB2.out hb3); have hx3 := HX2.out.below hb3 hz2; have y7 := hx3.cell (j := 7) rfl; have y8 := hx3.cell (j := 8) rfl; have y9 := hx3.cell (j := 9) rfl; clear hb3 hx3)
      | fail "no arm")
  cases hcn : cnt cv (n7, n8, n9)
  all_goals
    rw [hcn] at hem HR
    clear hcn
    go_wp2_with fail
    go_ret
    exact ⟨ret_bool HR.out, HB.out.trans (HB3.out.mono HB.out.size)⟩

theorem knF_snoc {L : List Dcl} {j : Nat} (hj : j < L.length) (x : BsM) : knF (L.take (j + 1)) x = (knF (L.take j) x).or (if cnt cv L[j].dc = true ∧ L[j].code = x then some L[j] else none) := by
  rw [List.take_succ_eq_append_getElem hj]
  unfold knF
  rw [List.find?_append]
  congr 1
  rw [List.find?_cons]
  by_cases h : cnt cv L[j].dc = true ∧ L[j].code = x
  · rw [if_pos h, h.1, decide_eq_true h.2]
    rfl
  · rw [if_neg h]
    have : (cnt cv L[j].dc && decide (L[j].code = x)) = false := by
      rw [Bool.and_eq_false_iff, decide_eq_false_iff_not]
      cases hc : cnt cv L[j].dc
      · exact .inl rfl
      · exact .inr fun e => h ⟨hc, e⟩
    rw [this]
    rfl
theorem sig_no {L : List Dcl} {j : Nat} (hj : j < L.length) (h : cnt cv L[j].dc = false ∨ (knF (L.take j) L[j].code).isSome = true) (x : BsM) : sigF (L.take j) x = sigF (L.take (j + 1)) x := by
  unfold sigF
  rw [knF_snoc hj]
  rcases h with h | h
  · rw [if_neg (by rw [h]; simp)]
    simp
  · by_cases hx : L[j].code = x
    · subst hx
      obtain ⟨d, hd⟩ := Option.isSome_iff_exists.1 h
      rw [hd]
      rfl
    · rw [if_neg (fun e => hx e.2)]
      simp
theorem sig_yes {L : List Dcl} {j : Nat} (hj : j < L.length) (h : cnt cv L[j].dc = true) (hn : (knF (L.take j) L[j].code).isSome = false) (x : BsM) : (if x = (bsB L[j].code).data.toList then some (dclV L[j]) else sigF (L.take j) x) = sigF (L.take (j + 1)) x := by
  rw [bsB_list]
  unfold sigF
  rw [knF_snoc hj]
  by_cases hx : x = L[j].code
  · subst hx
    rw [if_pos rfl, if_pos ⟨h, rfl⟩]
    rw [Option.isSome_eq_false_iff, Option.isNone_iff_eq_none] at hn
    rw [hn]
    rfl
  · rw [if_neg hx, if_neg (fun e => hx e.2.symm)]
    simp
theorem sm_look {L : List Dcl} {w : World} {b n : Nat} (h : SMap Tryz.prog 9 w b n (sigF L)) {code : Bs} (hc : code.length ≤ 140737488351232) :
    (Instr.lookup 62 (.map (some b)) (.string (bsB code)) true).run Tryz.prog w = .ok (.tuple #[dclV ((knF L code).getD dz), .bool (knF L code).isSome]) w := by
  have := h.look (t := 62) Tryz.underlying9 Tryz.underlying62 (zeroDcl w) (bsB code) (by rw [bsB_size]; unfold maxLen; omega)
  rw [bsB_list] at this
  unfold sigF at this
  rw [sig_getD, sig_some] at this
  exact this
theorem SMap.more {P : Program} {K : TypeId} {w : World} {b n n' : Nat} {f : BsM → Option Value} (h : SMap P K w b n f) (hn : n ≤ n') : SMap P K w b n' f := by
  obtain ⟨D, ho, hf⟩ := h
  exact ⟨D, ho.mono hn, hf⟩
def SgPost (L : List Dcl) (w : World) (e : Ending) (w' : World) : Prop := e = .returned (.map (some w.heap.size)) ∧ SMap Tryz.prog 9 w' w.heap.size L.length (sigF L) ∧ Below w.heap.size w w'
set_option maxHeartbeats 1600000 in
set_option maxRecDepth 100000 in
theorem ps_signals (v : Value) (L : List Dcl) (w : World) (hs : SlR w v L.length (dcls L)) (hg : Glob w) (hc : ∀ d ∈ L, d.code.length ≤ 1000) (hl : L.length ≤ 1000) : Calls Tryz.prog 23 #[v] w (SgPost L w) := by
  obtain ⟨a, cap, rfl, -, -⟩ := hs.shape
  have HS := Lib.hid hs
  have HG := Lib.hid hg
  have HC := Lib.hid hc
  have hmm := @run_makeMap Tryz.prog
  have h0 := SMap.made w Tryz.prog 9
  have b0 : Below w.heap.size w (w.alloc (.map #[] 0)) := (Below.refl _ _).alloc (Nat.le_refl _) _
  have HM0 := Lib.hid (h0.ext (g := sigF (L.take 0)) (fun s => rfl))
  have HB0 := Lib.hid b0
  clear hs hg hc h0 b0
  go_enter Tryz.func23, Tryz.ntmps23
  go_wp2_with fail
  clear hmm
  go_loopw [11] (fun i wr => ∃ j : Nat, j ≤ L.length ∧ i = .int .i64 j ∧ SMap Tryz.prog 9 wr w.heap.size j (sigF (L.take j)) ∧ Below w.heap.size w wr) (fun i _ => L.length - (intOf i).toNat)
  case atStart => exact ⟨0, Nat.zero_le _, rfl, HM0.out, HB0.out⟩
  case round =>
    obtain ⟨j, hj, rfl, hm, hb⟩ := hrel
    have HM := Lib.hid hm
    have HB := Lib.hid hb
    clear hm hb
    by_cases hlt : j < L.length
    · obtain ⟨b, o, rfl, hcl⟩ := (HS.out.below HB.out).dcls hlt
      have HN := Lib.hid (fun h => sig_no hlt h)
      have HY := Lib.hid (fun h h' => sig_yes hlt h h')
      have hcd := HC.out L[j] (List.getElem_mem hlt)
      generalize L[j] = d at hcl HN HY hcd
      obtain ⟨n0, n1, n2, n3, n4, n5, n6, n7, n8, n9⟩ := d
      have g0 : wr.cell? ⟨b, o + j * 10, none⟩ = some (.string (bsB n0)) := hcl 0 _ rfl
      have g1 : wr.cell? ⟨b, o + j * 10 + 1, none⟩ = some (.int .i64 n1) := hcl 1 _ rfl
      have g2 : wr.cell? ⟨b, o + j * 10 + 2, none⟩ = some (.int .i64 n2) := hcl 2 _ rfl
      have g3 : wr.cell? ⟨b, o + j * 10 + 3, none⟩ = some (.int .i64 n3) := hcl 3 _ rfl
      have g4 : wr.cell? ⟨b, o + j * 10 + 4, none⟩ = some (.bool n4) := hcl 4 _ rfl
      have g5 : wr.cell? ⟨b, o + j * 10 + 5, none⟩ = some (.int .i64 n5) := hcl 5 _ rfl
      have g6 : wr.cell? ⟨b, o + j * 10 + 6, none⟩ = some (.int .i64 n6) := hcl 6 _ rfl
      have g7 : wr.cell? ⟨b, o + j * 10 + 7, none⟩ = some (.string (bsB n7)) := hcl 7 _ rfl
      have g8 : wr.cell? ⟨b, o + j * 10 + 8, none⟩ = some (.int .i64 n8) := hcl 8 _ rfl
      have g9 : wr.cell? ⟨b, o + j * 10 + 9, none⟩ = some (.int .i64 n9) := hcl 9 _ rfl
      clear hcl
      have hal : Below wr.heap.size wr (wr.alloc (.cells #[.string (bsB n0), .int .i64 n1, .int .i64 n2, .int .i64 n3, .bool n4, .int .i64 n5, .int .i64 n6, .string (bsB n7), .int .i64 n8, .int .i64 n9] 55)) := (Below.refl _ _).alloc (Nat.le_refl _) _
      have HBK := Lib.hid (heap_alloc_new wr (.cells #[.string (bsB n0), .int .i64 n1, .int .i64 n2, .int .i64 n3, .bool n4, .int .i64 n5, .int .i64 n6, .string (bsB n7), .int .i64 n8, .int .i64 n9] 55))
      generalize hw1 : wr.alloc (.cells #[.string (bsB n0), .int .i64 n1, .int .i64 n2, .int .i64 n3, .bool n4, .int .i64 n5, .int .i64 n6, .string (bsB n7), .int .i64 n8, .int .i64 n9] 55) = w1 at *
      have x0 := (own_block5 HBK.out).cell (j := 0) rfl
      have x1 := (own_block5 HBK.out).cell (j := 1) rfl
      have x2 := (own_block5 HBK.out).cell (j := 2) rfl
      have x3 := (own_block5 HBK.out).cell (j := 3) rfl
      have x4 := (own_block5 HBK.out).cell (j := 4) rfl
      have x5 := (own_block5 HBK.out).cell (j := 5) rfl
      have x6 := (own_block5 HBK.out).cell (j := 6) rfl
      have x7 := (own_block5 HBK.out).cell (j := 7) rfl
      have x8 := (own_block5 HBK.out).cell (j := 8) rfl
      have x9 := (own_block5 HBK.out).cell (j := 9) rfl
      have HB1 := Lib.hid (HB.out.trans (hal.mono HB.out.size))
      have HM1 := Lib.hid (HM.out.below hal HM.out.lt)
      have HCN := Lib.hid (ps_counts ⟨n0, n1, n2, n3, n4, n5, n6, n7, n8, n9⟩ w1 (HG.out.below HB1.out) hcd)
      clear hal
      go_wp2_with fail
      refine HCN.out.mono ?_
      rintro e w2 ⟨rfl, hb2⟩
      have HB2 := Lib.hid (HB1.out.trans (hb2.mono HB1.out.size))
      have hm2 := HM1.out.below hb2 HM1.out.lt
      have HM2 := Lib.hid hm2
      have hbk2 := HBK.out
      rw [← hb2.block _ (Array.getElem?_eq_some_iff.1 HBK.out).1] at hbk2
      have y0 := (own_block5 hbk2).cell (j := 0) rfl
      have y1 := (own_block5 hbk2).cell (j := 1) rfl
      have y2 := (own_block5 hbk2).cell (j := 2) rfl
      have y3 := (own_block5 hbk2).cell (j := 3) rfl
      have y4 := (own_block5 hbk2).cell (j := 4) rfl
      have y5 := (own_block5 hbk2).cell (j := 5) rfl
      have y6 := (own_block5 hbk2).cell (j := 6) rfl
      have y7 := (own_block5 hbk2).cell (j := 7) rfl
      have y8 := (own_block5 hbk2).cell (j := 8) rfl
      have y9 := (own_block5 hbk2).cell (j := 9) rfl
      have hlk := sm_look hm2 (code := n7) (by omega)
      clear x0 x1 x2 x3 x4 x5 x6 x7 x8 x9 g0 g1 g2 g3 g4 g5 g6 g7 g8 g9 hb2 hm2 hbk2
      generalize hcn : cnt cv (Dcl.dc ⟨n0, n1, n2, n3, n4, n5, n6, n7, n8, n9⟩) = cn at *
      cases cn
      · have HB8 := HB2
        have HM8 := Lib.hid (HM2.out.ext (HN.out (.inl rfl)))
        have HM9 := Lib.hid (SMap.more HM8.out (Nat.le_succ j))
        clear hcn hlk
        go_wp2_with fail
        go_roundw
        case rel => exact ⟨j + 1, by omega, by go_num, HM9.out, HB8.out⟩
        case measure => simp [intOf]; omega
      · generalize hks : (knF (L.take j) n7).isSome = ks at *
        generalize hkd : (knF (L.take j) n7).getD dz = d at *
        obtain ⟨m0, m1, m2, m3, m4, m5, m6, m7, m8, m9⟩ := d
        cases ks
        · have hal3 : Below w2.heap.size w2 (w2.alloc (.cells #[.string (bsB m0), .int .i64 m1, .int .i64 m2, .int .i64 m3, .bool m4, .int .i64 m5, .int .i64 m6, .string (bsB m7), .int .i64 m8, .int .i64 m9] 55)) := (Below.refl _ _).alloc (Nat.le_refl _) _
          have HB3 := Lib.hid (HB2.out.trans (hal3.mono HB2.out.size))
          have hm3 := HM2.out.below hal3 HM2.out.lt
          generalize hw3 : w2.alloc (.cells #[.string (bsB m0), .int .i64 m1, .int .i64 m2, .int .i64 m3, .bool m4, .int .i64 m5, .int .i64 m6, .string (bsB m7), .int .i64 m8, .int .i64 m9] 55) = w3 at *
          have z0 := (hal3.cell (cell_lt y0)).trans y0
          have z1 := (hal3.cell (cell_lt y1)).trans y1
          have z2 := (hal3.cell (cell_lt y2)).trans y2
          have z3 := (hal3.cell (cell_lt y3)).trans y3
          have z4 := (hal3.cell (cell_lt y4)).trans y4
          have z5 := (hal3.cell (cell_lt y5)).trans y5
          have z6 := (hal3.cell (cell_lt y6)).trans y6
          have z7 := (hal3.cell (cell_lt y7)).trans y7
          have z8 := (hal3.cell (cell_lt y8)).trans y8
          have z9 := (hal3.cell (cell_lt y9)).trans y9
          obtain ⟨w4, r4, h4, q4⟩ := hm3.put (t := 62) Tryz.underlying9 Tryz.underlying62 (by unfold maxLen; omega) (bsB n7) (by rw [bsB_size]; unfold maxLen; omega) (dclV ⟨n0, n1, n2, n3, n4, n5, n6, n7, n8, n9⟩)
          have HB8 := Lib.hid (HB3.out.grown q4 HB3.out.size (fun k e => by cases e; exact Nat.le_refl _))
          have HM9 := Lib.hid (h4.ext (HY.out rfl rfl))
          clear hal3 hm3 h4 q4 hcn hks hkd
          go_wp2_with fail
          go_roundw
          case rel => exact ⟨j + 1, by omega, by go_num, HM9.out, HB8.out⟩
          case measure => simp [intOf]; omega
        · have hal3 : Below w2.heap.size w2 (w2.alloc (.cells #[.string (bsB m0), .int .i64 m1, .int .i64 m2, .int .i64 m3, .bool m4, .int .i64 m5, .int .i64 m6, .string (bsB m7), .int .i64 m8, .int .i64 m9] 55)) := (Below.refl _ _).alloc (Nat.le_refl _) _
          have HB8 := Lib.hid (HB2.out.trans (hal3.mono HB2.out.size))
          have HM9 := Lib.hid (SMap.more ((HM2.out.below hal3 HM2.out.lt).ext (HN.out (.inr rfl))) (Nat.le_succ j))
          clear hal3 hcn hks hkd
          go_wp2_with fail
          go_roundw
          case rel => exact ⟨j + 1, by omega, by go_num, HM9.out, HB8.out⟩
          case measure => simp [intOf]; omega
    · obtain rfl : j = L.length := by omega
      have HM2 := Lib.hid (show SMap Tryz.prog 9 wr w.heap.size L.length (sigF L) by have := HM.out; rwa [List.take_length] at this)
      go_wp2_with fail
      go_ret
      exact ⟨rfl, HM2.out, HB.out⟩
end Go.Proofs.YtgnkjcdkfcikeaaGreatDoor
