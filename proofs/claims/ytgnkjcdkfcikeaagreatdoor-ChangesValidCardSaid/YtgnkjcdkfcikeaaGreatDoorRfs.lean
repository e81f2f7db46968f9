import Derived.Test.YtgnkjcdkfcikeaaGreatDoorPw11
import Derived.BigQuiet
namespace Go.Proofs.YtgnkjcdkfcikeaaGreatDoor
open Go.RowKit
set_option linter.unusedSimpArgs false

set_option maxHeartbeats 800000 in
set_option maxRecDepth 100000 in
theorem ref_Find (v : Value) (L : List Dcl) (c : Bs) (w : World) (hs : SlR w v L.length (dcls L)) (hL : L.length ≤ 1000) :
    Calls Tryz.prog 15 #[v, .string (bsB c)] w fun e w' => ∃ i : Int, e = .returned (.int .i64 i) ∧ w' = w ∧ ((i = -1 ∧ ∀ d ∈ L, d.code ≠ c) ∨ ∃ (j : Nat) (h : j < L.length), i = (j : Int) ∧ L[j].code = c) := by
  obtain ⟨a, cap, rfl, hcap, hmax⟩ := hs.shape
  have HS := Lib.hid hs
  clear hs
  go_enter Tryz.func15, Tryz.ntmps15
  go_wp2_with fail
  go_loopw [5] (fun i wr => ∃ j : Nat, j ≤ L.length ∧ i = .int .i64 j ∧ wr = w ∧ ∀ d ∈ L.take j, d.code ≠ c) (fun i _ => L.length - (intOf i).toNat)
  case atStart => exact ⟨0, Nat.zero_le _, rfl, rfl, by simp⟩
  case round =>
    obtain ⟨j, hj, rfl, rfl, hn⟩ := hrel
    have HN := Lib.hid hn
    clear hn
    by_cases hlt : j < L.length
    · obtain ⟨b, o, rfl, hcl⟩ := HS.out.dcls hlt
      have htk : L.take (j + 1) = L.take j ++ [L[j]] := List.take_succ_eq_append_getElem hlt
      generalize hd : L[j] = d at hcl htk
      have HD := Lib.hid hd
      have g7 : wr.cell? ⟨b, o + j * 10 + 7, none⟩ = some (.string (bsB d.code)) := hcl 7 _ rfl
      have HT := Lib.hid htk
      have q1 : (0 : Int) ≤ (j : Int) := by omega
      have q2 : (j : Int) < (L.length : Int) := by omega
      have hw : IntKind.i64.wrap ((j : Int) + 1) = (j : Int) + 1 := IntWalk.i64_in _ (by omega)
      have hbe : ((bsB d.code).toList == (bsB c).toList) = decide (d.code = c) := by
        rw [ByteArray.toList_eq, ByteArray.toList_eq, bsB_list, bsB_list]
        by_cases h : d.code = c
        · rw [decide_eq_true h, beq_iff_eq]; exact h
        · rw [decide_eq_false h, beq_eq_false_iff_ne]; exact h
      clear hcl htk hd
      by_cases h : d.code = c
      · rw [decide_eq_true h] at hbe
        go_wp2_with fail
        go_ret
        exact ⟨_, rfl, rfl, .inr ⟨j, hlt, rfl, by rw [HD.out]; exact h⟩⟩
      · rw [decide_eq_false h] at hbe
        go_wp2_with fail
        go_roundw
        case rel =>
          refine ⟨j + 1, hlt, by go_num, trivial, fun x hx => ?_⟩
          rw [HT.out] at hx
          rcases List.mem_append.1 hx with hx | hx
          · exact HN.out x hx
          · obtain rfl := List.mem_singleton.1 hx
            exact h
        case measure => simp [intOf]; omega
    · obtain rfl : j = L.length := by omega
      go_wp2_with fail
      go_ret
      exact ⟨_, rfl, rfl, .inl ⟨rfl, fun d hd => HN.out d (by rw [List.take_length]; exact hd)⟩⟩
end Go.Proofs.YtgnkjcdkfcikeaaGreatDoor

namespace Go.Proofs.YtgnkjcdkfcikeaaGreatDoor
open Go.RowKit
set_option linter.unusedSimpArgs false

set_option maxHeartbeats 800000 in
set_option maxRecDepth 100000 in
theorem ref_Few21 (w : World) :
    Calls Tryz.prog 38 #[.slice none 0 0, .slice none 0 0] w fun e w' => e = .returned (.bool true) ∧ w' = w := by
  go_enter Tryz.func38, Tryz.ntmps38
  go_wp2_with fail
  go_loopw [5] (fun i wr => i = .int .i64 0 ∧ wr = w) (fun _ _ => 0)
  case atStart => exact ⟨rfl, rfl⟩
  case round =>
    obtain ⟨rfl, rfl⟩ := hrel
    go_wp2_with fail
    go_loopw [6] (fun i wr2 => i = .int .i64 0 ∧ wr2 = wr) (fun _ _ => 0)
    case atStart => exact ⟨rfl, rfl⟩
    case round =>
      obtain ⟨rfl, rfl⟩ := hrel
      go_wp2_with fail
      go_ret
      exact ⟨rfl, rfl⟩
end Go.Proofs.YtgnkjcdkfcikeaaGreatDoor

namespace Go.Proofs.YtgnkjcdkfcikeaaGreatDoor
open Go.RowKit
set_option linter.unusedSimpArgs false

set_option maxHeartbeats 1600000 in
set_option maxRecDepth 100000 in
theorem ref_Few25 (v : Value) (L : List Dcl) (w : World) (hs : SlR w v L.length (dcls L)) (ht : ∀ d ∈ L, d.nm.length ≤ 140737488351232 ∧ d.code.length ≤ 140737488351232) :
    Calls Tryz.prog 20 #[.agg #[.int .i64 0, .string ⟨#[]⟩, .string ⟨#[]⟩, .string ⟨#[]⟩, .slice none 0 0, v]] w fun e w' => ∃ b : Bool, e = .returned (.bool b) ∧ Below w.heap.size w w' ∧ (b = true → L.length ≤ 140 ∧ ∀ d ∈ L, d.nm.length + d.code.length ≤ 100) := by
  obtain ⟨a, cap, rfl, hcap, hmax⟩ := hs.shape
  unfold maxLen at hmax
  have HS := Lib.hid hs
  have HT := Lib.hid ht
  clear hs ht
  have hal : Below w.heap.size w (w.alloc (.cells #[.int .i64 0, .string ⟨#[]⟩, .string ⟨#[]⟩, .string ⟨#[]⟩, .slice none 0 0, .slice a L.length cap] 59)) := (Below.refl _ _).alloc (Nat.le_refl _) _
  have hx := OwnRow.fresh w #[.int .i64 0, .string ⟨#[]⟩, .string ⟨#[]⟩, .string ⟨#[]⟩, .slice none 0 0, .slice a L.length cap] 59
  go_enter Tryz.func20, Tryz.ntmps20
  go_wp2_with fail
  generalize hw1 : w.alloc (.cells #[.int .i64 0, .string ⟨#[]⟩, .string ⟨#[]⟩, .string ⟨#[]⟩, .slice none 0 0, .slice a L.length cap] 59) = w1 at *
  have HB := Lib.hid hal
  have HX := Lib.hid hx
  clear hx hal hw1
  go_loopw [3] (fun i wr => ∃ (j n : Nat), j ≤ L.length ∧ i = .int .i64 j ∧ wr = w1.drewN n ∧ ∀ d ∈ L.take j, d.nm.length + d.code.length ≤ 100) (fun i _ => L.length - (intOf i).toNat)
  case atStart => exact ⟨0, 0, Nat.zero_le _, rfl, rfl, by simp⟩
  case round =>
    obtain ⟨j, n, hj, rfl, rfl, hn⟩ := hrel
    have HN := Lib.hid hn
    have hx : OwnRow (w1.drewN n) w.heap.size [.int .i64 0, .string ⟨#[]⟩, .string ⟨#[]⟩, .string ⟨#[]⟩, .slice none 0 0, .slice a L.length cap] := HX.out
    have x5 := hx.cell (j := 5) rfl
    have x4 := hx.cell (j := 4) rfl
    clear hn
    by_cases hlt : j < L.length
    · obtain ⟨b, o, rfl, hcl⟩ := (HS.out.below (HB.out.trans (Below.refl _ w1)) : SlR w1 (.slice a L.length cap) L.length (dcls L)).dcls hlt
      have htk : L.take (j + 1) = L.take j ++ [L[j]] := List.take_succ_eq_append_getElem hlt
      obtain ⟨ht1, ht2⟩ := HT.out _ (List.getElem_mem hlt)
      generalize hd : L[j] = d at hcl htk ht1 ht2
      have g0 : (w1.drewN n).cell? ⟨b, o + j * 10, none⟩ = some (.string (bsB d.nm)) := hcl 0 _ rfl
      have g7 : (w1.drewN n).cell? ⟨b, o + j * 10 + 7, none⟩ = some (.string (bsB d.code)) := hcl 7 _ rfl
      have HTK := Lib.hid htk
      have q1 : (0 : Int) ≤ (j : Int) := by omega
      have q2 : (j : Int) < (L.length : Int) := by omega
      have hw : IntKind.i64.wrap ((j : Int) + 1) = (j : Int) + 1 := IntWalk.i64_in _ (by omega)
      have z1 := bsB_size d.nm
      have z2 := bsB_size d.code
      clear hcl htk hd
      have hws : IntKind.i64.wrap ((d.nm.length : Int) + (d.code.length : Int)) = (d.nm.length : Int) + (d.code.length : Int) := IntWalk.i64_in _ (by omega)
      by_cases hgt : (100 : Int) < (d.nm.length : Int) + (d.code.length : Int)
      · have hd1 : decide ((100 : Int) < (d.nm.length : Int) + (d.code.length : Int)) = true := decide_eq_true hgt
        go_wp2_with fail
        go_region_held3 (fun w' => w'.cell? ⟨w.heap.size, 5, none⟩ = some (.slice (some ⟨b, o, none⟩) L.length cap) ∧ w'.cell? ⟨b, o + j * 10, none⟩ = some (.string (bsB d.nm)) ∧ w'.cell? ⟨b, o + j * 10 + 7, none⟩ = some (.string (bsB d.code)))
          (first | exact ⟨x5, g0, g7⟩ | go_keep)
          (first | fail "no arm")
        go_wp2_with fail
        go_ret
        exact ⟨false, rfl, ⟨HB.out.os, HB.out.tape, HB.out.output, HB.out.size, HB.out.block⟩, fun h => by cases h⟩
      · have hd1 : decide ((100 : Int) < (d.nm.length : Int) + (d.code.length : Int)) = false := decide_eq_false hgt
        go_wp2_with fail
        go_region_held3 (fun w' => w'.cell? ⟨w.heap.size, 5, none⟩ = some (.slice (some ⟨b, o, none⟩) L.length cap) ∧ w'.cell? ⟨b, o + j * 10, none⟩ = some (.string (bsB d.nm)) ∧ w'.cell? ⟨b, o + j * 10 + 7, none⟩ = some (.string (bsB d.code)))
          (first | exact ⟨x5, g0, g7⟩ | go_keep)
          (first | fail "no arm")
        go_wp2_with fail
        go_roundw
        case rel =>
          refine ⟨j + 1, n + 1, hlt, by go_num, rfl, fun x hx => ?_⟩
          rw [HTK.out] at hx
          rcases List.mem_append.1 hx with hx | hx
          · exact HN.out x hx
          · obtain rfl := List.mem_singleton.1 hx
            omega
        case measure => simp [intOf]; omega
    · obtain rfl : j = L.length := by omega
      have x1 := hx.cell (j := 1) rfl
      have x2 := hx.cell (j := 2) rfl
      have x3 := hx.cell (j := 3) rfl
      by_cases h140 : L.length ≤ 140
      · have hd1 : decide ((L.length : Int) ≤ 140) = true := by rw [decide_eq_true_iff]; omega
        go_wp2_with fail
        refine (ref_Few21 _).mono ?_
        rintro e w2 ⟨rfl, rfl⟩
        go_wp2_with fail
        go_ret
        exact ⟨true, rfl, ⟨HB.out.os, HB.out.tape, HB.out.output, HB.out.size, HB.out.block⟩, fun _ => ⟨h140, fun d hd => HN.out d (by rw [List.take_length]; exact hd)⟩⟩
      · have hd1 : decide ((L.length : Int) ≤ 140) = false := by rw [decide_eq_false_iff_not]; omega
        go_wp2_with fail
        refine (ref_Few21 _).mono ?_
        rintro e w2 ⟨rfl, rfl⟩
        go_wp2_with fail
        go_ret
        exact ⟨false, rfl, ⟨HB.out.os, HB.out.tape, HB.out.output, HB.out.size, HB.out.block⟩, fun h => by cases h⟩
end Go.Proofs.YtgnkjcdkfcikeaaGreatDoor

namespace Go.Proofs.YtgnkjcdkfcikeaaGreatDoor
open Go.RowKit
set_option linter.unusedSimpArgs false

theorem bsB_ne {c c' : Bs} (h : c ≠ c') : ((bsB c).toList == (bsB c').toList) = false := by
  rw [ByteArray.toList_eq, ByteArray.toList_eq, bsB_list, bsB_list, beq_eq_false_iff_ne]
  exact h
theorem int_ne {c c' : Int} (h : c ≠ c') : (c == c') = false := by
  rw [beq_eq_false_iff_ne]
  exact h
set_option maxHeartbeats 800000 in
set_option maxRecDepth 100000 in
theorem ref_Same26 (v u : Value) (l m : List Rc) (w : World) (hs : SlR w v l.length (recs l)) (ht : SlR w u m.length (recs m)) :
    Calls Tryz.prog 13 #[v, u] w fun e w' => e = .returned (.bool (decide (l = m))) ∧ Below w.heap.size w w' := by
  obtain ⟨a, cap, rfl, hc, hm⟩ := hs.shape
  obtain ⟨a2, cap2, rfl, hc2, hm2⟩ := ht.shape
  unfold maxLen at hm hm2
  have HS := Lib.hid hs
  have HT := Lib.hid ht
  clear hs ht
  by_cases hne : l.length ≠ m.length
  · have E := Lib.hid (show decide (l = m) = false by rw [decide_eq_false_iff_not]; intro h; exact hne (by rw [h]))
    have hb : ((l.length : Int) != (m.length : Int)) = true := by rw [bne_iff_ne]; omega
    clear hne
    go_enter Tryz.func13, Tryz.ntmps13
    go_wp2_with fail
    go_ret
    exact ⟨ret_bool E.out.symm, Below.refl _ _⟩
  have hlen : l.length = m.length := by omega
  have hb : ((l.length : Int) != (m.length : Int)) = false := by rw [hlen]; simp
  clear hne
  go_enter Tryz.func13, Tryz.ntmps13
  go_wp2_with fail
  go_loopw [5] (fun i wr => ∃ (j : Nat), j ≤ l.length ∧ i = .int .i64 j ∧ l.take j = m.take j ∧ Below w.heap.size w wr)
    (fun i _ => l.length - (intOf i).toNat)
  case atStart => exact ⟨0, Nat.zero_le _, rfl, rfl, Below.refl _ _⟩
  case round =>
    obtain ⟨j, hj, rfl, hgo, hbw⟩ := hrel
    have HGO := Lib.hid hgo
    have HB := Lib.hid hbw
    clear hgo hbw
    by_cases hlt : j < l.length
    · have hlt2 : j < m.length := by omega
      obtain ⟨b, o, rfl, d0, d1, d2, d3⟩ := SlR.recs (HS.out.below HB.out) hlt
      obtain ⟨b2, o2, rfl, g0, g1, g2, g3⟩ := SlR.recs (HT.out.below HB.out) hlt2
      have hw : IntKind.i64.wrap ((j : Int) + 1) = (j : Int) + 1 := IntWalk.i64_in _ (by omega)
      by_cases he : l[j] = m[j]
      · have HGO2 : Hid (l.take (j + 1) = m.take (j + 1)) := Lib.hid (by rw [List.take_succ_eq_append_getElem hlt, List.take_succ_eq_append_getElem hlt2, HGO.out, he])
        rw [← he] at g0 g1 g2 g3
        generalize l[j] = c at d0 d1 d2 d3 g0 g1 g2 g3
        clear he
        obtain ⟨x, y, z, t⟩ := c
        dsimp only at d0 d1 d2 d3 g0 g1 g2 g3
        go_wp2_with fail
        go_quiet (fail)
        go_wp2_with fail
        go_roundw
        case rel => exact ⟨j + 1, by omega, by go_num, HGO2.out, below_drewN HB.out _⟩
        case measure => simp [intOf]; omega
      · have E2 := Lib.hid (show decide (l = m) = false by rw [decide_eq_false_iff_not]; intro h; subst h; exact he rfl)
        generalize l[j] = c at d0 d1 d2 d3 he
        generalize m[j] = c' at g0 g1 g2 g3 he
        obtain ⟨x, y, z, t⟩ := c
        obtain ⟨x', y', z', t'⟩ := c'
        dsimp only at d0 d1 d2 d3 g0 g1 g2 g3
        by_cases hx : x = x'
        · subst hx
          by_cases hy : y = y'
          · subst hy
            by_cases hz : z = z'
            · subst hz
              have hzb := bsB_ne (show t ≠ t' from fun h => he (by rw [h]))
              clear he
              go_wp2_with fail
              go_quiet (fail)
              go_wp2_with fail
              go_ret
              exact ⟨ret_bool E2.out.symm, below_drewN HB.out _⟩
            · have hzb := bsB_ne hz
              clear he
              go_wp2_with fail
              go_quiet (fail)
              go_wp2_with fail
              go_ret
              exact ⟨ret_bool E2.out.symm, below_drewN HB.out _⟩
          · have hyb := int_ne hy
            clear he
            go_wp2_with fail
            go_quiet (fail)
            go_wp2_with fail
            go_ret
            exact ⟨ret_bool E2.out.symm, below_drewN HB.out _⟩
        · have hxb := int_ne hx
          clear he
          go_wp2_with fail
          go_quiet (fail)
          go_wp2_with fail
          go_ret
          exact ⟨ret_bool E2.out.symm, below_drewN HB.out _⟩
    · obtain rfl : j = l.length := by omega
      have E2 := Lib.hid (show decide (l = m) = true by rw [decide_eq_true_iff]; have := HGO.out; rwa [List.take_length, hlen, List.take_length] at this)
      go_wp2_with fail
      go_ret
      exact ⟨ret_bool E2.out.symm, HB.out⟩
set_option maxHeartbeats 800000 in
set_option maxRecDepth 100000 in
theorem ref_Problems (v u : Value) (l m : List Pb) (w : World) (hs : SlR w v l.length (prbs l)) (ht : SlR w u m.length (prbs m)) :
    Calls Tryz.prog 16 #[v, u] w fun e w' => e = .returned (.bool (decide (l = m))) ∧ Below w.heap.size w w' := by
  obtain ⟨a, cap, rfl, hc, hm⟩ := hs.shape
  obtain ⟨a2, cap2, rfl, hc2, hm2⟩ := ht.shape
  unfold maxLen at hm hm2
  have HS := Lib.hid hs
  have HT := Lib.hid ht
  clear hs ht
  by_cases hne : l.length ≠ m.length
  · have E := Lib.hid (show decide (l = m) = false by rw [decide_eq_false_iff_not]; intro h; exact hne (by rw [h]))
    have hb : ((l.length : Int) != (m.length : Int)) = true := by rw [bne_iff_ne]; omega
    clear hne
    go_enter Tryz.func16, Tryz.ntmps16
    go_wp2_with fail
    go_ret
    exact ⟨ret_bool E.out.symm, Below.refl _ _⟩
  have hlen : l.length = m.length := by omega
  have hb : ((l.length : Int) != (m.length : Int)) = false := by rw [hlen]; simp
  clear hne
  go_enter Tryz.func16, Tryz.ntmps16
  go_wp2_with fail
  go_loopw [5] (fun i wr => ∃ (j : Nat), j ≤ l.length ∧ i = .int .i64 j ∧ l.take j = m.take j ∧ Below w.heap.size w wr)
    (fun i _ => l.length - (intOf i).toNat)
  case atStart => exact ⟨0, Nat.zero_le _, rfl, rfl, Below.refl _ _⟩
  case round =>
    obtain ⟨j, hj, rfl, hgo, hbw⟩ := hrel
    have HGO := Lib.hid hgo
    have HB := Lib.hid hbw
    clear hgo hbw
    by_cases hlt : j < l.length
    · have hlt2 : j < m.length := by omega
      obtain ⟨b, o, rfl, d0, d1, d2, d3⟩ := SlR.prbs (HS.out.below HB.out) hlt
      obtain ⟨b2, o2, rfl, g0, g1, g2, g3⟩ := SlR.prbs (HT.out.below HB.out) hlt2
      have hw : IntKind.i64.wrap ((j : Int) + 1) = (j : Int) + 1 := IntWalk.i64_in _ (by omega)
      by_cases he : l[j] = m[j]
      · have HGO2 : Hid (l.take (j + 1) = m.take (j + 1)) := Lib.hid (by rw [List.take_succ_eq_append_getElem hlt, List.take_succ_eq_append_getElem hlt2, HGO.out, he])
        rw [← he] at g0 g1 g2 g3
        generalize l[j] = c at d0 d1 d2 d3 g0 g1 g2 g3
        clear he
        obtain ⟨x, y, z, t⟩ := c
        dsimp only at d0 d1 d2 d3 g0 g1 g2 g3
        go_wp2_with fail
        go_quiet (fail)
        go_wp2_with fail
        go_roundw
        case rel => exact ⟨j + 1, by omega, by go_num, HGO2.out, below_drewN HB.out _⟩
        case measure => simp [intOf]; omega
      · have E2 := Lib.hid (show decide (l = m) = false by rw [decide_eq_false_iff_not]; intro h; subst h; exact he rfl)
        generalize l[j] = c at d0 d1 d2 d3 he
        generalize m[j] = c' at g0 g1 g2 g3 he
        obtain ⟨x, y, z, t⟩ := c
        obtain ⟨x', y', z', t'⟩ := c'
        dsimp only at d0 d1 d2 d3 g0 g1 g2 g3
        by_cases hx : x = x'
        · subst hx
          by_cases hy : y = y'
          · subst hy
            by_cases hz : z = z'
            · subst hz
              have hzb := int_ne (show t ≠ t' from fun h => he (by rw [h]))
              clear he
              go_wp2_with fail
              go_quiet (fail)
              go_wp2_with fail
              go_ret
              exact ⟨ret_bool E2.out.symm, below_drewN HB.out _⟩
            · have hzb := int_ne hz
              clear he
              go_wp2_with fail
              go_quiet (fail)
              go_wp2_with fail
              go_ret
              exact ⟨ret_bool E2.out.symm, below_drewN HB.out _⟩
          · have hyb := int_ne hy
            clear he
            go_wp2_with fail
            go_quiet (fail)
            go_wp2_with fail
            go_ret
            exact ⟨ret_bool E2.out.symm, below_drewN HB.out _⟩
        · have hxb := int_ne hx
          clear he
          go_wp2_with fail
          go_quiet (fail)
          go_wp2_with fail
          go_ret
          exact ⟨ret_bool E2.out.symm, below_drewN HB.out _⟩
    · obtain rfl : j = l.length := by omega
      have E2 := Lib.hid (show decide (l = m) = true by rw [decide_eq_true_iff]; have := HGO.out; rwa [List.take_length, hlen, List.take_length] at this)
      go_wp2_with fail
      go_ret
      exact ⟨ret_bool E2.out.symm, HB.out⟩
end Go.Proofs.YtgnkjcdkfcikeaaGreatDoor

namespace Go.Proofs.YtgnkjcdkfcikeaaGreatDoor
open Go.RowKit
set_option linter.unusedSimpArgs false

/-- few and short -/
def FewOk (rs : List Rc) (L : List Dcl) : Prop := rs.length ≤ 100 ∧ (∀ r ∈ rs, r.2.2.1.length ≤ 60 ∧ r.2.2.2.length ≤ 300) ∧ L.length ≤ 20 ∧ ∀ d ∈ L, d.nm.length + d.code.length ≤ 100
def FewPost (rs : List Rc) (L : List Dcl) (w : World) (e : Ending) (w' : World) : Prop := ∃ b : Bool, e = .returned (.bool b) ∧ Below w.heap.size w w' ∧ (b = true → FewOk rs L)
set_option maxHeartbeats 1600000 in
set_option maxRecDepth 100000 in
theorem ref_Few26 (v v2 : Value) (rs : List Rc) (L : List Dcl) (w : World) (hs : SlR w v rs.length (recs rs)) (hd : SlR w v2 L.length (dcls L)) (hr : ∀ r ∈ rs, r.2.2.1.length ≤ 140737488351232 ∧ r.2.2.2.length ≤ 140737488351232)
    (ht : ∀ d ∈ L, d.nm.length ≤ 140737488351232 ∧ d.code.length ≤ 140737488351232) :
    Calls Tryz.prog 9 #[v, v2] w (FewPost rs L w) := by
  obtain ⟨a, cap, rfl, hcap, hmax⟩ := hs.shape
  obtain ⟨a2, cap2, rfl, hcap2, hmax2⟩ := hd.shape
  unfold maxLen at hmax hmax2
  have HS := Lib.hid hs
  have HD := Lib.hid hd
  have HR := Lib.hid hr
  have HT := Lib.hid ht
  clear hs hd hr ht
  go_enter Tryz.func9, Tryz.ntmps9
  go_wp2_with fail
  go_loopw [5] (fun i wr => ∃ j : Nat, j ≤ rs.length ∧ i = .int .i64 j ∧ wr = w ∧ ∀ r ∈ rs.take j, r.2.2.1.length ≤ 60 ∧ r.2.2.2.length ≤ 300) (fun i _ => rs.length - (intOf i).toNat)
  case atStart => exact ⟨0, Nat.zero_le _, rfl, rfl, by simp⟩
  case round =>
    obtain ⟨j, hj, rfl, rfl, hn⟩ := hrel
    have HN := Lib.hid hn
    clear hn
    by_cases hlt : j < rs.length
    · obtain ⟨b, o, rfl, g0, g1, g2, g3⟩ := SlR.recs HS.out hlt
      have htk : rs.take (j + 1) = rs.take j ++ [rs[j]] := List.take_succ_eq_append_getElem hlt
      obtain ⟨ht1, ht2⟩ := HR.out _ (List.getElem_mem hlt)
      generalize hx : rs[j] = x at g0 g1 g2 g3 htk ht1 ht2
      have HTK := Lib.hid htk
      have z1 := bsB_size x.2.2.1
      have z2 := bsB_size x.2.2.2
      have q1 : (0 : Int) ≤ (j : Int) := by omega
      have q2 : (j : Int) < (rs.length : Int) := by omega
      have hw : IntKind.i64.wrap ((j : Int) + 1) = (j : Int) + 1 := IntWalk.i64_in _ (by omega)
      clear htk hx
      by_cases h3 : (300 : Int) < (x.2.2.2.length : Int)
      · have hd1 : decide ((300 : Int) < (x.2.2.2.length : Int)) = true := decide_eq_true h3
        go_wp2_with fail
        go_ret
        exact ⟨false, rfl, Below.refl _ _, fun h => by cases h⟩
      · have hd1 : decide ((300 : Int) < (x.2.2.2.length : Int)) = false := decide_eq_false h3
        by_cases h6 : (60 : Int) < (x.2.2.1.length : Int)
        · have hd2 : decide ((60 : Int) < (x.2.2.1.length : Int)) = true := decide_eq_true h6
          go_wp2_with fail
          go_ret
          exact ⟨false, rfl, Below.refl _ _, fun h => by cases h⟩
        · have hd2 : decide ((60 : Int) < (x.2.2.1.length : Int)) = false := decide_eq_false h6
          go_wp2_with fail
          go_roundw
          case rel =>
            refine ⟨j + 1, hlt, by go_num, trivial, fun y hy => ?_⟩
            rw [HTK.out] at hy
            rcases List.mem_append.1 hy with hy | hy
            · exact HN.out y hy
            · obtain rfl := List.mem_singleton.1 hy
              omega
          case measure => simp [intOf]; omega
    · obtain rfl : j = rs.length := by omega
      by_cases h1 : rs.length ≤ 100
      · have hd1 : decide ((rs.length : Int) ≤ 100) = true := by rw [decide_eq_true_iff]; omega
        go_wp2_with fail
        refine (ref_Few25 _ L _ HD.out HT.out).mono ?_
        rintro e w2 ⟨bb, rfl, hb2, hq⟩
        have HB2 := Lib.hid hb2
        have HQ := Lib.hid hq
        clear hb2 hq
        cases bb
        · go_wp2_with fail
          go_ret
          exact ⟨false, rfl, HB2.out, fun h => by cases h⟩
        · by_cases h20 : L.length ≤ 20
          · have hd2 : decide ((L.length : Int) ≤ 20) = true := by rw [decide_eq_true_iff]; omega
            go_wp2_with fail
            go_ret
            exact ⟨true, rfl, HB2.out, fun _ => ⟨h1, fun r hr => HN.out r (by rw [List.take_length]; exact hr), h20, (HQ.out trivial).2⟩⟩
          · have hd2 : decide ((L.length : Int) ≤ 20) = false := by rw [decide_eq_false_iff_not]; omega
            go_wp2_with fail
            go_ret
            exact ⟨false, rfl, HB2.out, fun h => by cases h⟩
      · have hd1 : decide ((rs.length : Int) ≤ 100) = false := by rw [decide_eq_false_iff_not]; omega
        go_wp2_with fail
        go_ret
        exact ⟨false, rfl, Below.refl _ _, fun h => by cases h⟩
end Go.Proofs.YtgnkjcdkfcikeaaGreatDoor

namespace Go.Proofs.YtgnkjcdkfcikeaaGreatDoor
open Go.RowKit
set_option linter.unusedSimpArgs false

set_option maxHeartbeats 1600000 in
set_option maxRecDepth 100000 in
theorem ref_Consistent (v : Value) (L : List Dcl) (w : World) (hs : SlR w v L.length (dcls L)) (hL : L.length ≤ 1000) (ht : ∀ d ∈ L, d.code.length ≤ 1000) :
    Calls Tryz.prog 10 #[v] w fun e w' => ∃ b : Bool, e = .returned (.bool b) ∧ Below w.heap.size w w' := by
  obtain ⟨a, cap, rfl, hcap, hmax⟩ := hs.shape
  have HS := Lib.hid hs
  have HT := Lib.hid ht
  clear hs ht
  go_enter Tryz.func10, Tryz.ntmps10
  go_wp2_with fail
  go_loopw [3] (fun i wr => ∃ j : Nat, j ≤ L.length ∧ i = .int .i64 j ∧ Below w.heap.size w wr) (fun i _ => L.length - (intOf i).toNat)
  case atStart => exact ⟨0, Nat.zero_le _, rfl, Below.refl _ _⟩
  case round =>
    obtain ⟨j, hj, rfl, hb⟩ := hrel
    have HB := Lib.hid hb
    clear hb
    by_cases hlt : j < L.length
    · have hS := HS.out.below HB.out
      have HSR := Lib.hid hS
      obtain ⟨b, o, rfl, hcl⟩ := hS.dcls hlt
      have hmem := List.getElem_mem hlt
      have hcode := HT.out _ hmem
      generalize hd : L[j] = d at hcl hmem hcode
      have HJ := Lib.hid hd
      have HM := Lib.hid hmem
      obtain ⟨d0, d1, d2, d3, d4, d5, d6, dc, dk, dw⟩ := d
      have g7 : wr.cell? ⟨b, o + j * 10 + 7, none⟩ = some (.string (bsB dc)) := hcl 7 _ rfl
      have g8 : wr.cell? ⟨b, o + j * 10 + 8, none⟩ = some (.int .i64 dk) := hcl 8 _ rfl
      have g9 : wr.cell? ⟨b, o + j * 10 + 9, none⟩ = some (.int .i64 dw) := hcl 9 _ rfl
      have q1 : (0 : Int) ≤ (j : Int) := by omega
      have q2 : (j : Int) < (L.length : Int) := by omega
      have hw : IntKind.i64.wrap ((j : Int) + 1) = (j : Int) + 1 := IntWalk.i64_in _ (by omega)
      clear hcl hd hS hmem
      go_wp2_with fail
      refine (ref_Find _ L dc _ HSR.out hL).mono ?_
      rintro e w1 ⟨i, rfl, rfl, ⟨rfl, hno⟩ | ⟨q, hq, rfl, hqc⟩⟩
      · exact absurd rfl (hno _ HM.out)
      obtain ⟨b', o', he, hcl⟩ := HSR.out.dcls hq
      injection he with he
      injection he with he1 he2 _
      subst he1 he2
      generalize hd : L[q] = f at hcl
      obtain ⟨f0, f1, f2, f3, f4, f5, f6, fc, fk, fw⟩ := f
      have k0 : w1.cell? ⟨b, o + q * 10, none⟩ = some (.string (bsB f0)) := hcl 0 _ rfl
      have k1 : w1.cell? ⟨b, o + q * 10 + 1, none⟩ = some (.int .i64 f1) := hcl 1 _ rfl
      have k2 : w1.cell? ⟨b, o + q * 10 + 2, none⟩ = some (.int .i64 f2) := hcl 2 _ rfl
      have k3 : w1.cell? ⟨b, o + q * 10 + 3, none⟩ = some (.int .i64 f3) := hcl 3 _ rfl
      have k4 : w1.cell? ⟨b, o + q * 10 + 4, none⟩ = some (.bool f4) := hcl 4 _ rfl
      have k5 : w1.cell? ⟨b, o + q * 10 + 5, none⟩ = some (.int .i64 f5) := hcl 5 _ rfl
      have k6 : w1.cell? ⟨b, o + q * 10 + 6, none⟩ = some (.int .i64 f6) := hcl 6 _ rfl
      have k7 : w1.cell? ⟨b, o + q * 10 + 7, none⟩ = some (.string (bsB fc)) := hcl 7 _ rfl
      have k8 : w1.cell? ⟨b, o + q * 10 + 8, none⟩ = some (.int .i64 fk) := hcl 8 _ rfl
      have k9 : w1.cell? ⟨b, o + q * 10 + 9, none⟩ = some (.int .i64 fw) := hcl 9 _ rfl
      have q3 : (q : Int) < (L.length : Int) := by omega
      clear hcl hd hqc
      have hal : Below w1.heap.size w1 (w1.alloc (.cells #[.string (bsB f0), .int .i64 f1, .int .i64 f2, .int .i64 f3, .bool f4, .int .i64 f5, .int .i64 f6, .string (bsB fc), .int .i64 fk, .int .i64 fw] 55)) := (Below.refl _ _).alloc (Nat.le_refl _) _
      have hx := OwnRow.fresh w1 #[.string (bsB f0), .int .i64 f1, .int .i64 f2, .int .i64 f3, .bool f4, .int .i64 f5, .int .i64 f6, .string (bsB fc), .int .i64 fk, .int .i64 fw] 55
      have HVC := Lib.hid (fun W => ref_ValidCode (bsB dc) W (by rw [bsB_size]; exact Nat.le_trans hcode (by decide)))
      have HVT := Lib.hid (fun W => (ref_ValidType dk dw W).mono (fun _ _ (h : _ ∧ _) => And.intro h.1 h.2.symm))
      obtain ⟨b2, o2, he2, hcl2⟩ := (HSR.out.below hal).dcls hlt
      injection he2 with he2
      injection he2 with he3 he4 _
      subst he3 he4
      rw [HJ.out] at hcl2
      go_wp2_with fail
      have c8 := hx.cell (j := 8) rfl
      have c9 := hx.cell (j := 9) rfl
      have HBX := Lib.hid hal
      generalize w1.alloc (.cells #[.string (bsB f0), .int .i64 f1, .int .i64 f2, .int .i64 f3, .bool f4, .int .i64 f5, .int .i64 f6, .string (bsB fc), .int .i64 fk, .int .i64 fw] 55) = w2 at c8 c9 HBX hcl2 ⊢
      have g7 : w2.cell? ⟨b, o + j * 10 + 7, none⟩ = some (.string (bsB dc)) := hcl2 7 _ rfl
      have g8 : w2.cell? ⟨b, o + j * 10 + 8, none⟩ = some (.int .i64 dk) := hcl2 8 _ rfl
      have g9 : w2.cell? ⟨b, o + j * 10 + 9, none⟩ = some (.int .i64 dw) := hcl2 9 _ rfl
      clear hcl2 hal hx k0 k1 k2 k3 k4 k5 k6 k7 k8 k9 q3 hcode
      by_cases hk : fk = dk
      · subst hk
        by_cases hww : fw = dw
        · subst hww
          generalize codeOk (bsB dc).data.toList = cb at HVC
          generalize vt fk fw = tb at HVT
          cases cb
          · skip
            go_quiet (first | (go_at_call 21; exact Calls.quiet_of_same (HVC.out _)) | (go_at_call 22; exact Calls.quiet_of_same (HVT.out _)))
            go_wp2_with fail
            go_ret
            exact ⟨false, rfl, below_drewN (ext_trans HB.out HBX.out) _⟩
          · cases tb
            · skip
              go_quiet (first | (go_at_call 21; exact Calls.quiet_of_same (HVC.out _)) | (go_at_call 22; exact Calls.quiet_of_same (HVT.out _)))
              go_wp2_with fail
              go_ret
              exact ⟨false, rfl, below_drewN (ext_trans HB.out HBX.out) _⟩
            · skip
              go_quiet (first | (go_at_call 21; exact Calls.quiet_of_same (HVC.out _)) | (go_at_call 22; exact Calls.quiet_of_same (HVT.out _)))
              go_wp2_with fail
              go_roundw
              case rel => exact ⟨j + 1, by omega, by go_num, below_drewN (ext_trans HB.out HBX.out) _⟩
              case measure => simp [intOf]; omega
        · have hwb : (fw != dw) = true := by rw [bne_iff_ne]; exact hww
          clear hww
          go_quiet (first | (go_at_call 21; exact Calls.quiet_of_same (HVC.out _)) | (go_at_call 22; exact Calls.quiet_of_same (HVT.out _)))
          go_wp2_with fail
          go_ret
          exact ⟨false, rfl, below_drewN (ext_trans HB.out HBX.out) _⟩
      · have hkb : (fk != dk) = true := by rw [bne_iff_ne]; exact hk
        clear hk
        go_quiet (first | (go_at_call 21; exact Calls.quiet_of_same (HVC.out _)) | (go_at_call 22; exact Calls.quiet_of_same (HVT.out _)))
        go_wp2_with fail
        go_ret
        exact ⟨false, rfl, below_drewN (ext_trans HB.out HBX.out) _⟩
    · obtain rfl : j = L.length := by omega
      go_wp2_with fail
      go_ret
      exact ⟨true, rfl, HB.out⟩
end Go.Proofs.YtgnkjcdkfcikeaaGreatDoor
