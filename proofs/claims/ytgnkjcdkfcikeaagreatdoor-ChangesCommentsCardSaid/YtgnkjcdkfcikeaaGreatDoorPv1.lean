import Derived.Test.YtgnkjcdkfcikeaaGreatDoorPw11
import Derived.Test.YtgnkjcdkfcikeaaGreatDoorCp3
namespace Go.Proofs.YtgnkjcdkfcikeaaGreatDoor
open Go.RowKit
set_option linter.unusedSimpArgs false

theorem cmd_isEmpty (k n : Int) (v id : Bs) : (cmdB k n (bsB v) (bsB id)).toList.isEmpty = decide (cmdL cv k n v id = []) := by
  unfold cmdB
  rw [ByteArray.toList_eq, bsB_list, bsB_list, bsB_list]
  cases cmdL cv k n v id with
  | nil => rfl
  | cons a l => rfl
theorem bsB_isEmpty (v : Bs) : (bsB v).toList.isEmpty = decide (v = []) := by
  rw [ByteArray.toList_eq, bsB_list]
  cases v with
  | nil => rfl
  | cons a l => rfl
theorem sm_look2 {L : List Dcl} {w : World} {b n : Nat} (h : SMap Tryz.prog 9 w b n (sigF L)) {code : Bs} (hc : code.length ≤ 140737488351232) :
    (Instr.lookup 62 (.map (some b)) (.string (bsB code)) false).run Tryz.prog w = .ok (dclV ((knF L code).getD dz)) w := by
  have := h.look1 (t := 62) Tryz.underlying9 Tryz.underlying62 (zeroDcl w) (bsB code) (by rw [bsB_size]; unfold maxLen; omega)
  rw [bsB_list] at this
  unfold sigF at this
  rw [sig_getD] at this
  exact this
abbrev knd (L : List Dcl) : Bs → Option Dc := knL cv (L.map Dcl.dc)
set_option maxHeartbeats 1600000 in
set_option maxRecDepth 100000 in
theorem ch_valid (v : Value) (mb mn : Nat) (rs : List Rc) (L : List Dcl) (w : World) (hs : SlR w v rs.length (recs rs)) (hm : SMap Tryz.prog 9 w mb mn (sigF L)) (hg : Glob w)
    (hr : ∀ r ∈ rs, r.2.2.1.length ≤ 1000 ∧ r.2.2.2.length ≤ 1000) (hl : rs.length ≤ 1000000) :
    Calls Tryz.prog 24 #[v, .map (some mb)] w fun e w' => e = .returned (.bool (validL cv (knd L) 0 false rs)) ∧ Below w.heap.size w w' := by
  obtain ⟨a, cap, rfl, hcap, hmax⟩ := hs.shape
  have HS := Lib.hid hs
  have HG := Lib.hid hg
  have HM := Lib.hid hm
  have HR := Lib.hid hr
  have hmlt := hm.lt
  clear hs hg hm hr
  go_enter Tryz.func24, Tryz.ntmps24
  go_wp2_with fail
  go_loopw [5, 6, 13] (fun la of i wr => ∃ (j : Nat) (x : Int) (b : Bool), j ≤ rs.length ∧ la = .int .i64 x ∧ of = .bool b ∧ i = .int .i64 j ∧ validL cv (knd L) x b (rs.drop j) = validL cv (knd L) 0 false rs ∧ Below w.heap.size w wr)
    (fun _ _ i _ => rs.length - (intOf i).toNat)
  case atStart => exact ⟨0, 0, false, Nat.zero_le _, rfl, rfl, rfl, rfl, Below.refl _ _⟩
  case round =>
    obtain ⟨j, x, b, hj, rfl, rfl, rfl, hv, hb⟩ := hrel
    have HV := Lib.hid hv
    have HB := Lib.hid hb
    by_cases hlt : j < rs.length
    · obtain ⟨bb, oo, rfl, c0, c1, c2, c3⟩ := (HS.out.below hb).recs hlt
      have hdr : rs.drop j = rs[j] :: rs.drop (j + 1) := List.drop_eq_getElem_cons hlt
      rw [hdr] at HV
      obtain ⟨hr1, hr2⟩ := HR.out _ (List.getElem_mem hlt)
      obtain ⟨r, hr⟩ : ∃ r, rs[j] = r := ⟨_, rfl⟩
      rw [hr] at c0 c1 c2 c3 HV hr1 hr2
      clear hdr hr hv
      obtain ⟨k, t, code, vl⟩ := r
      dsimp only at c0 c1 c2 c3 hr1 hr2
      have hal : Below wr.heap.size wr (wr.alloc (.cells #[.int .i64 k, .int .i64 t, .string (bsB code), .string (bsB vl)] 45)) := (Below.refl _ _).alloc (Nat.le_refl _) _
      have hx := OwnRow.fresh wr #[.int .i64 k, .int .i64 t, .string (bsB code), .string (bsB vl)] 45
      have hz : wr.heap.size < (wr.alloc (.cells #[.int .i64 k, .int .i64 t, .string (bsB code), .string (bsB vl)] 45)).heap.size := by simp
      have HB1 := Lib.hid (ext_trans hb hal)
      have HX := Lib.hid hx
      have x0 := hx.cell (j := 0) rfl
      have x1 := hx.cell (j := 1) rfl
      have x2 := hx.cell (j := 2) rfl
      have x3 := hx.cell (j := 3) rfl
      have he1 : (bsB code).toList = code := by rw [ByteArray.toList_eq, bsB_list]
      have he2 : (bsB vl).toList = vl := by rw [ByteArray.toList_eq, bsB_list]
      have q1 : (0 : Int) ≤ (j : Int) := by omega
      have q2 : (j : Int) < (rs.length : Int) := by omega
      have hw : IntKind.i64.wrap ((j : Int) + 1) = (j : Int) + 1 := IntWalk.i64_in _ (by omega)
      clear hb hal hx
      by_cases k0 : k = 0
      · subst k0
        by_cases hc : code = []
        · by_cases hvl : vl = []
          · by_cases ht : t < x
            · skip
              have HF := Lib.hid (show validL cv (knd L) 0 false rs = false by rw [← HV.out]; simp [validL, hc, hvl, ht])
              clear HV
              go_wp2_with fail
              all_goals (go_ret; first | exact ⟨ret_bool HF.out.symm, HB.out.alloc HB.out.size _⟩ | exact ⟨ret_bool HF.out.symm, (HB.out.alloc HB.out.size _).alloc (HB.out.alloc HB.out.size _).size _⟩)
            · by_cases ht2 : t ≤ 1099511627776
              · have HT := Lib.hid (show validL cv (knd L) t b (rs.drop (j + 1)) = validL cv (knd L) 0 false rs by rw [← HV.out]; simp [validL, hc, hvl, ht, ht2])
                have hd1 : decide (t < x) = false := decide_eq_false ht
                have hd2 : decide ((1099511627776 : Int) < t) = false := decide_eq_false (by omega)
                subst hc hvl
                clear ht ht2
                go_wp2_with fail
                go_roundw
                case rel => exact ⟨j + 1, t, b, by omega, rfl, rfl, by go_num, HT.out, HB.out.alloc HB.out.size _⟩
                case measure => simp [intOf]; omega
              · have hd2 : decide ((1099511627776 : Int) < t) = true := decide_eq_true (by omega)
                have HF := Lib.hid (show validL cv (knd L) 0 false rs = false by rw [← HV.out]; simp [validL, hc, hvl, ht, ht2])
                clear HV
                go_wp2_with fail
                all_goals (go_ret; first | exact ⟨ret_bool HF.out.symm, HB.out.alloc HB.out.size _⟩ | exact ⟨ret_bool HF.out.symm, (HB.out.alloc HB.out.size _).alloc (HB.out.alloc HB.out.size _).size _⟩)
          · skip
            have HF := Lib.hid (show validL cv (knd L) 0 false rs = false by rw [← HV.out]; simp [validL, hc, hvl])
            clear HV
            go_wp2_with fail
            all_goals (go_ret; first | exact ⟨ret_bool HF.out.symm, HB.out.alloc HB.out.size _⟩ | exact ⟨ret_bool HF.out.symm, (HB.out.alloc HB.out.size _).alloc (HB.out.alloc HB.out.size _).size _⟩)
        · skip
          have HF := Lib.hid (show validL cv (knd L) 0 false rs = false by rw [← HV.out]; simp [validL, hc])
          clear HV
          go_wp2_with fail
          all_goals (go_ret; first | exact ⟨ret_bool HF.out.symm, HB.out.alloc HB.out.size _⟩ | exact ⟨ret_bool HF.out.symm, (HB.out.alloc HB.out.size _).alloc (HB.out.alloc HB.out.size _).size _⟩)
      by_cases k1 : k = 1
      · subst k1
        have hkn : knd L code = (knF L code).map Dcl.dc := knF_map L code
        have hlk := sm_look (HM.out.below HB1.out hmlt) (code := code) (by omega)
        have hcs : (bsB code).size ≤ 100000 := by rw [bsB_size]; omega
        have hvs : (bsB vl).size ≤ 100000 := by rw [bsB_size]; omega
        cases hkf : knF L code with
        | none =>
          rw [hkf] at hlk hkn
          have hkn2 : knd L code = none := hkn
          have HF := Lib.hid (show validL cv (knd L) 0 false rs = false by rw [← HV.out]; simp [validL, hkn2])
          clear HV
          go_wp2_with fail
          all_goals (go_ret; first | exact ⟨ret_bool HF.out.symm, HB.out.alloc HB.out.size _⟩ | exact ⟨ret_bool HF.out.symm, (HB.out.alloc HB.out.size _).alloc (HB.out.alloc HB.out.size _).size _⟩)
        | some d =>
          rw [hkf] at hlk hkn
          obtain ⟨n0, n1, n2, n3, n4, n5, n6, n7, n8, n9⟩ := d
          have hkn2 : knd L code = some (n7, n8, n9) := hkn
          rw [show ((some (⟨n0, n1, n2, n3, n4, n5, n6, n7, n8, n9⟩ : Dcl)).getD dz) = ⟨n0, n1, n2, n3, n4, n5, n6, n7, n8, n9⟩ from rfl] at hlk
          dsimp only [dclV] at hlk
          clear hkn hkf
          have hal2 : Below (wr.alloc (.cells #[.int .i64 1, .int .i64 t, .string (bsB code), .string (bsB vl)] 45)).heap.size (wr.alloc (.cells #[.int .i64 1, .int .i64 t, .string (bsB code), .string (bsB vl)] 45)) ((wr.alloc (.cells #[.int .i64 1, .int .i64 t, .string (bsB code), .string (bsB vl)] 45)).alloc (.cells #[.string (bsB n0), .int .i64 n1, .int .i64 n2, .int .i64 n3, .bool n4, .int .i64 n5, .int .i64 n6, .string (bsB n7), .int .i64 n8, .int .i64 n9] 55)) := (Below.refl _ _).alloc (Nat.le_refl _) _
          have hx2 := HX.out.below hal2 hz
          have hy2 := OwnRow.fresh (wr.alloc (.cells #[.int .i64 1, .int .i64 t, .string (bsB code), .string (bsB vl)] 45)) #[.string (bsB n0), .int .i64 n1, .int .i64 n2, .int .i64 n3, .bool n4, .int .i64 n5, .int .i64 n6, .string (bsB n7), .int .i64 n8, .int .i64 n9] 55
          rw [World.size_alloc] at hy2
          have HX2 := Lib.hid hx2
          have HY2 := Lib.hid hy2
          have hz2 : wr.heap.size + 1 < ((wr.alloc (.cells #[.int .i64 1, .int .i64 t, .string (bsB code), .string (bsB vl)] 45)).alloc (.cells #[.string (bsB n0), .int .i64 n1, .int .i64 n2, .int .i64 n3, .bool n4, .int .i64 n5, .int .i64 n6, .string (bsB n7), .int .i64 n8, .int .i64 n9] 55)).heap.size := by simp
          have HB2 := Lib.hid (ext_trans HB1.out hal2)
          have y1 := hx2.cell (j := 1) rfl
          have y2 := hx2.cell (j := 2) rfl
          have y3 := hx2.cell (j := 3) rfl
          have z8 := hy2.cell (j := 8) rfl
          have z9 := hy2.cell (j := 9) rfl
          have HC := Lib.hid (val_Command n8 n9 (bsB vl) (bsB code) _ (HG.out.below HB2.out) hvs hcs)
          have hce := cmd_isEmpty n8 n9 vl code
          clear hal2 hx2 hy2
          by_cases ht : t = 0
          · by_cases hcm : cmdL cv n8 n9 vl code = []
            · have HF := Lib.hid (show validL cv (knd L) 0 false rs = false by rw [← HV.out]; simp [validL, hkn2, hcm])
              rw [decide_eq_true hcm] at hce
              subst ht
              go_wp2_with (go_at_call 28; refine HC.out.mono ?_; rintro e w3 ⟨rfl, hb3⟩; have HB3 := Lib.hid (ext_trans HB2.out hb3))
              all_goals (go_ret; exact ⟨ret_bool HF.out.symm, HB3.out⟩)
            · rw [decide_eq_false hcm] at hce
              cases b
              · have HT := Lib.hid (show validL cv (knd L) x false (rs.drop (j + 1)) = validL cv (knd L) 0 false rs by rw [← HV.out]; simp [validL, hkn2, hcm, ht])
                subst ht
                go_wp2_with (go_at_call 28; refine HC.out.mono ?_; rintro e w3 ⟨rfl, hb3⟩; have HB3 := Lib.hid (ext_trans HB2.out hb3))
                go_roundw
                case rel => exact ⟨j + 1, x, false, by omega, rfl, rfl, by go_num, HT.out, HB3.out⟩
                case measure => simp [intOf]; omega
              · by_cases h8 : n8 = 0
                · have HF := Lib.hid (show validL cv (knd L) 0 false rs = false by rw [← HV.out]; simp [validL, hkn2, h8])
                  subst ht
                  subst h8
                  go_wp2_with (go_at_call 28; refine HC.out.mono ?_; rintro e w3 ⟨rfl, hb3⟩; have HB3 := Lib.hid (ext_trans HB2.out hb3); have z8 := (HY2.out.below hb3 hz2).cell (j := 8) rfl)
                  all_goals (go_ret; exact ⟨ret_bool HF.out.symm, HB3.out⟩)
                · have HT := Lib.hid (show validL cv (knd L) x true (rs.drop (j + 1)) = validL cv (knd L) 0 false rs by rw [← HV.out]; simp [validL, hkn2, hcm, ht, h8])
                  have h8b : ((n8 : Int) == 0) = false := by rw [beq_eq_false_iff_ne]; exact h8
                  subst ht
                  go_wp2_with (go_at_call 28; refine HC.out.mono ?_; rintro e w3 ⟨rfl, hb3⟩; have HB3 := Lib.hid (ext_trans HB2.out hb3); have z8 := (HY2.out.below hb3 hz2).cell (j := 8) rfl)
                  go_roundw
                  case rel => exact ⟨j + 1, x, true, by omega, rfl, rfl, by go_num, HT.out, HB3.out⟩
                  case measure => simp [intOf]; omega
          · have HF := Lib.hid (show validL cv (knd L) 0 false rs = false by rw [← HV.out]; simp [validL, hkn2, ht])
            have htb : ((t : Int) == 0) = false := by rw [beq_eq_false_iff_ne]; exact ht
            clear HV
            go_wp2_with fail
            all_goals (go_ret; exact ⟨ret_bool HF.out.symm, HB2.out⟩)
      by_cases k2 : k = 2
      · subst k2
        by_cases ht : t = 0
        · by_cases hc : code = []
          · by_cases hvl : vl = []
            · subst ht hc hvl
              cases b
              · have HT := Lib.hid (show validL cv (knd L) x true (rs.drop (j + 1)) = validL cv (knd L) 0 false rs by rw [← HV.out]; simp [validL])
                go_wp2_with fail
                go_roundw
                case rel => exact ⟨j + 1, x, true, by omega, rfl, rfl, by go_num, HT.out, HB.out.alloc HB.out.size _⟩
                case measure => simp [intOf]; omega
              · skip
                have HF := Lib.hid (show validL cv (knd L) 0 false rs = false by rw [← HV.out]; simp [validL])
                clear HV
                go_wp2_with fail
                all_goals (go_ret; first | exact ⟨ret_bool HF.out.symm, HB.out.alloc HB.out.size _⟩ | exact ⟨ret_bool HF.out.symm, (HB.out.alloc HB.out.size _).alloc (HB.out.alloc HB.out.size _).size _⟩)
            · skip
              have HF := Lib.hid (show validL cv (knd L) 0 false rs = false by rw [← HV.out]; simp [validL, hvl])
              clear HV
              go_wp2_with fail
              all_goals (go_ret; first | exact ⟨ret_bool HF.out.symm, HB.out.alloc HB.out.size _⟩ | exact ⟨ret_bool HF.out.symm, (HB.out.alloc HB.out.size _).alloc (HB.out.alloc HB.out.size _).size _⟩)
          · skip
            have HF := Lib.hid (show validL cv (knd L) 0 false rs = false by rw [← HV.out]; simp [validL, hc])
            clear HV
            go_wp2_with fail
            all_goals (go_ret; first | exact ⟨ret_bool HF.out.symm, HB.out.alloc HB.out.size _⟩ | exact ⟨ret_bool HF.out.symm, (HB.out.alloc HB.out.size _).alloc (HB.out.alloc HB.out.size _).size _⟩)
        · skip
          have HF := Lib.hid (show validL cv (knd L) 0 false rs = false by rw [← HV.out]; simp [validL, ht])
          clear HV
          go_wp2_with fail
          all_goals (go_ret; first | exact ⟨ret_bool HF.out.symm, HB.out.alloc HB.out.size _⟩ | exact ⟨ret_bool HF.out.symm, (HB.out.alloc HB.out.size _).alloc (HB.out.alloc HB.out.size _).size _⟩)
      by_cases k3 : k = 3
      · subst k3
        by_cases ht : t = 0
        · by_cases hc : code = []
          · by_cases hvl : vl = []
            · subst ht hc hvl
              cases b
              · skip
                have HF := Lib.hid (show validL cv (knd L) 0 false rs = false by rw [← HV.out]; simp [validL])
                clear HV
                go_wp2_with fail
                all_goals (go_ret; first | exact ⟨ret_bool HF.out.symm, HB.out.alloc HB.out.size _⟩ | exact ⟨ret_bool HF.out.symm, (HB.out.alloc HB.out.size _).alloc (HB.out.alloc HB.out.size _).size _⟩)
              · have HT := Lib.hid (show validL cv (knd L) x false (rs.drop (j + 1)) = validL cv (knd L) 0 false rs by rw [← HV.out]; simp [validL])
                go_wp2_with fail
                go_roundw
                case rel => exact ⟨j + 1, x, false, by omega, rfl, rfl, by go_num, HT.out, HB.out.alloc HB.out.size _⟩
                case measure => simp [intOf]; omega
            · skip
              have HF := Lib.hid (show validL cv (knd L) 0 false rs = false by rw [← HV.out]; simp [validL, hvl])
              clear HV
              go_wp2_with fail
              all_goals (go_ret; first | exact ⟨ret_bool HF.out.symm, HB.out.alloc HB.out.size _⟩ | exact ⟨ret_bool HF.out.symm, (HB.out.alloc HB.out.size _).alloc (HB.out.alloc HB.out.size _).size _⟩)
          · skip
            have HF := Lib.hid (show validL cv (knd L) 0 false rs = false by rw [← HV.out]; simp [validL, hc])
            clear HV
            go_wp2_with fail
            all_goals (go_ret; first | exact ⟨ret_bool HF.out.symm, HB.out.alloc HB.out.size _⟩ | exact ⟨ret_bool HF.out.symm, (HB.out.alloc HB.out.size _).alloc (HB.out.alloc HB.out.size _).size _⟩)
        · skip
          have HF := Lib.hid (show validL cv (knd L) 0 false rs = false by rw [← HV.out]; simp [validL, ht])
          clear HV
          go_wp2_with fail
          all_goals (go_ret; first | exact ⟨ret_bool HF.out.symm, HB.out.alloc HB.out.size _⟩ | exact ⟨ret_bool HF.out.symm, (HB.out.alloc HB.out.size _).alloc (HB.out.alloc HB.out.size _).size _⟩)
      by_cases k4 : k = 4
      · subst k4
        by_cases ht : t = 0
        · by_cases hc : code = []
          · by_cases hvl : vl = []
            · subst ht hc hvl
              have HT := Lib.hid (show validL cv (knd L) x b (rs.drop (j + 1)) = validL cv (knd L) 0 false rs by rw [← HV.out]; simp [validL])
              go_wp2_with fail
              go_roundw
              case rel => exact ⟨j + 1, x, b, by omega, rfl, rfl, by go_num, HT.out, HB.out.alloc HB.out.size _⟩
              case measure => simp [intOf]; omega
            · skip
              have HF := Lib.hid (show validL cv (knd L) 0 false rs = false by rw [← HV.out]; simp [validL, hvl])
              clear HV
              go_wp2_with fail
              all_goals (go_ret; first | exact ⟨ret_bool HF.out.symm, HB.out.alloc HB.out.size _⟩ | exact ⟨ret_bool HF.out.symm, (HB.out.alloc HB.out.size _).alloc (HB.out.alloc HB.out.size _).size _⟩)
          · skip
            have HF := Lib.hid (show validL cv (knd L) 0 false rs = false by rw [← HV.out]; simp [validL, hc])
            clear HV
            go_wp2_with fail
            all_goals (go_ret; first | exact ⟨ret_bool HF.out.symm, HB.out.alloc HB.out.size _⟩ | exact ⟨ret_bool HF.out.symm, (HB.out.alloc HB.out.size _).alloc (HB.out.alloc HB.out.size _).size _⟩)
        · skip
          have HF := Lib.hid (show validL cv (knd L) 0 false rs = false by rw [← HV.out]; simp [validL, ht])
          clear HV
          go_wp2_with fail
          all_goals (go_ret; first | exact ⟨ret_bool HF.out.symm, HB.out.alloc HB.out.size _⟩ | exact ⟨ret_bool HF.out.symm, (HB.out.alloc HB.out.size _).alloc (HB.out.alloc HB.out.size _).size _⟩)
      · have hk0 : (k == (0 : Int)) = false := by rw [beq_eq_false_iff_ne]; exact k0
        have hk1 : (k == (1 : Int)) = false := by rw [beq_eq_false_iff_ne]; exact k1
        have hk2 : (k == (2 : Int)) = false := by rw [beq_eq_false_iff_ne]; exact k2
        have hk3 : (k == (3 : Int)) = false := by rw [beq_eq_false_iff_ne]; exact k3
        have hk4 : (k == (4 : Int)) = false := by rw [beq_eq_false_iff_ne]; exact k4
        have HF := Lib.hid (show validL cv (knd L) 0 false rs = false by rw [← HV.out]; simp [validL, k0, k1, k2, k3, k4])
        clear HV
        go_wp2_with fail
        all_goals (go_ret; first | exact ⟨ret_bool HF.out.symm, HB.out.alloc HB.out.size _⟩ | exact ⟨ret_bool HF.out.symm, (HB.out.alloc HB.out.size _).alloc (HB.out.alloc HB.out.size _).size _⟩)
    · obtain rfl : j = rs.length := by omega
      rw [List.drop_length] at HV
      have e : validL cv (knd L) 0 false rs = true := by rw [← HV.out]; rfl
      clear hv
      go_wp2_with fail
      go_ret
      exact ⟨ret_bool e.symm, HB.out⟩
end Go.Proofs.YtgnkjcdkfcikeaaGreatDoor
