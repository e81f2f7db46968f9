import Derived.Test.YtgnkjcdkfcikeaaGreatDoorPw1
namespace Go.Proofs.YtgnkjcdkfcikeaaGreatDoor
open Go.RowKit
set_option linter.unusedSimpArgs false

/-- the part of a state that opens or shuts a dump -/
def PS.setOpn (s : PS) (b : Bool) : PS := { s with opn := b }
theorem ParX.opn {c : PC} {i : Int} {s : PS} {vo vr : Value} {W : World} (h : ParX c i s vo vr W) (b : Bool) : ParX c i (s.setOpn b) vo vr (W.setCell ⟨c.B, 5, none⟩ (.bool b)) := h.set 5 (.bool b) rfl rfl rfl
set_option maxHeartbeats 800000 in
theorem ps_end (c : PC) (i : Int) (s : PS) (vo vr : Value) (w : Wd) (W : World) (h : ParX c i s vo vr W) (hl : s.wrong.length ≤ 1000000) :
    Calls Tryz.prog 46 #[.pointer (some ⟨c.B, 0, none⟩), wdV w] W (PPost c i (endP s w)) := by
  obtain ⟨tx, o1, o2, o3⟩ := w
  have hal : Below W.heap.size W (W.alloc (.cells #[.string (bsB tx), .int .i64 o1, .int .i64 o2, .int .i64 o3] 39)) := (Below.refl _ _).alloc (Nat.le_refl _) _
  have hx := OwnRow.fresh W #[.string (bsB tx), .int .i64 o1, .int .i64 o2, .int .i64 o3] 39
  have hz : W.heap.size < (W.alloc (.cells #[.string (bsB tx), .int .i64 o1, .int .i64 o2, .int .i64 o3] 39)).heap.size := by simp
  have H := Lib.hid (h.later hal)
  generalize hw1 : W.alloc (.cells #[.string (bsB tx), .int .i64 o1, .int .i64 o2, .int .i64 o3] 39) = w1 at *
  have x0 := hx.cell (j := 0) rfl
  have x1 := hx.cell (j := 1) rfl
  have x2 := hx.cell (j := 2) rfl
  have x3 := hx.cell (j := 3) rfl
  clear h hal hx
  have c5 := H.out.row.cell (j := 5) rfl
  cases ho : s.opn
  · have HR := Lib.hid (show (s.prob 3 (tx, o1, o2, o3)).setOpn false = endP s (tx, o1, o2, o3) by unfold endP PS.setOpn; rw [if_neg (by rw [ho]; simp)])
    rw [ho] at c5
    clear ho
    go_enter Tryz.func46, Tryz.ntmps46
    go_wp2_with fail
    refine (ps_problem c i s vo vr 3 (tx, o1, o2, o3) _ H.out hl).mono ?_
    rintro e w2 ⟨rfl, vo2, vr2, h2⟩
    have H2 := Lib.hid (h2.opn false)
    have c5 := h2.row.cell (j := 5) rfl
    have f5 := h2.row.free (j := 5) (by simp [parC])
    clear h2
    go_wp2_with fail
    go_end0
    exact ⟨rfl, _, _, HR.out ▸ H2.out⟩
  · have HR := Lib.hid (show s.setOpn false = endP s (tx, o1, o2, o3) by unfold endP PS.setOpn; rw [if_pos ho])
    rw [ho] at c5
    have f5 := H.out.row.free (j := 5) (by simp [parC])
    have H2 := Lib.hid (H.out.opn false)
    clear ho
    go_enter Tryz.func46, Tryz.ntmps46
    go_wp2_with fail
    go_end0
    exact ⟨rfl, _, _, HR.out ▸ H2.out⟩
set_option maxHeartbeats 800000 in
theorem ps_dump (c : PC) (i : Int) (s : PS) (vo vr : Value) (w : Wd) (W : World) (h : ParX c i s vo vr W) (hl : s.wrong.length ≤ 1000000) (hl2 : s.out.length ≤ 1000000) :
    Calls Tryz.prog 44 #[.pointer (some ⟨c.B, 0, none⟩), wdV w] W (PPost c i (dumpP s w)) := by
  obtain ⟨tx, o1, o2, o3⟩ := w
  have hal : Below W.heap.size W (W.alloc (.cells #[.string (bsB tx), .int .i64 o1, .int .i64 o2, .int .i64 o3] 39)) := (Below.refl _ _).alloc (Nat.le_refl _) _
  have hx := OwnRow.fresh W #[.string (bsB tx), .int .i64 o1, .int .i64 o2, .int .i64 o3] 39
  have hz : W.heap.size < (W.alloc (.cells #[.string (bsB tx), .int .i64 o1, .int .i64 o2, .int .i64 o3] 39)).heap.size := by simp
  have H := Lib.hid (h.later hal)
  generalize hw1 : W.alloc (.cells #[.string (bsB tx), .int .i64 o1, .int .i64 o2, .int .i64 o3] 39) = w1 at *
  have x0 := hx.cell (j := 0) rfl
  have x1 := hx.cell (j := 1) rfl
  have x2 := hx.cell (j := 2) rfl
  have x3 := hx.cell (j := 3) rfl
  clear h hal hx
  have c5 := H.out.row.cell (j := 5) rfl
  cases ho : s.opn
  · have HR := Lib.hid (show (s.setOpn true).put (4, 0, [], []) = dumpP s (tx, o1, o2, o3) by unfold dumpP PS.setOpn; rw [if_neg (by rw [ho]; simp)])
    rw [ho] at c5
    have f5 := H.out.row.free (j := 5) (by simp [parC])
    have H2 := Lib.hid (H.out.opn true)
    clear ho
    go_enter Tryz.func44, Tryz.ntmps44
    go_wp2_with fail
    refine (ps_record c i _ _ _ (4, 0, [], []) _ H2.out hl2).mono ?_
    rintro e w3 ⟨rfl, vo3, vr3, h3⟩
    have H3 := Lib.hid h3
    clear h3
    go_wp2_with fail
    go_end0
    exact ⟨rfl, _, _, HR.out ▸ H3.out⟩
  · have HR := Lib.hid (show ((s.prob 10 (tx, o1, o2, o3)).setOpn true).put (4, 0, [], []) = dumpP s (tx, o1, o2, o3) by unfold dumpP PS.setOpn; rw [if_pos ho])
    rw [ho] at c5
    clear ho
    go_enter Tryz.func44, Tryz.ntmps44
    go_wp2_with fail
    refine (ps_problem c i s vo vr 10 (tx, o1, o2, o3) _ H.out hl).mono ?_
    rintro e w2 ⟨rfl, vo2, vr2, h2⟩
    have H2 := Lib.hid (h2.opn true)
    have c5 := h2.row.cell (j := 5) rfl
    have f5 := h2.row.free (j := 5) (by simp [parC])
    clear h2
    go_wp2_with fail
    refine (ps_record c i _ _ _ (4, 0, [], []) _ H2.out hl2).mono ?_
    rintro e w3 ⟨rfl, vo3, vr3, h3⟩
    have H3 := Lib.hid h3
    clear h3
    go_wp2_with fail
    go_end0
    exact ⟨rfl, _, _, HR.out ▸ H3.out⟩

def PS.setOff (s : PS) (b : Bool) : PS := { s with off := b }
theorem ParX.offs {c : PC} {i : Int} {s : PS} {vo vr : Value} {W : World} (h : ParX c i s vo vr W) (b : Bool) : ParX c i (s.setOff b) vo vr (W.setCell ⟨c.B, 4, none⟩ (.bool b)) := h.set 4 (.bool b) rfl rfl rfl
theorem turn_al {s : PS} {w : Wd} {o : Bool} (h : (s.off == o) = true) : (s.prob 10 w).setOpn true = turnP s w o := by
  unfold turnP PS.setOpn
  simp [h]
theorem turn_sk {s : PS} {w : Wd} {o : Bool} (h : (s.off == o) = false) (hk : s.skip = true) : (if s.opn = true then s.prob 10 w else s).setOpn true = turnP s w o := by
  unfold turnP PS.setOpn
  simp [h, hk]
theorem turn_go {s : PS} {w : Wd} {o : Bool} (h : (s.off == o) = false) (hk : s.skip = false) : (((if s.opn = true then s.prob 10 w else s).setOpn true).setOff o).put (if o = true then 2 else 3, 0, [], []) = turnP s w o := by
  unfold turnP PS.setOpn PS.setOff
  simp [h, hk]
set_option maxHeartbeats 1600000 in
theorem ps_turn_off (c : PC) (i : Int) (s : PS) (vo vr : Value) (o1 o2 o3 : Int) (W : World) (h : ParX c i s vo vr W) (hl : s.wrong.length ≤ 1000000) (hl2 : s.out.length ≤ 1000000) :
    Calls Tryz.prog 45 #[.pointer (some ⟨c.B, 0, none⟩), .agg #[.string (⟨#[36, 100, 117, 109, 112, 111, 102, 102]⟩ : ByteArray), .int .i64 o1, .int .i64 o2, .int .i64 o3]] W (PPost c i (turnP s (sDumpoff, o1, o2, o3) true)) := by
  have hal : Below W.heap.size W (W.alloc (.cells #[.string (⟨#[36, 100, 117, 109, 112, 111, 102, 102]⟩ : ByteArray), .int .i64 o1, .int .i64 o2, .int .i64 o3] 39)) := (Below.refl _ _).alloc (Nat.le_refl _) _
  have hx := OwnRow.fresh W #[.string (⟨#[36, 100, 117, 109, 112, 111, 102, 102]⟩ : ByteArray), .int .i64 o1, .int .i64 o2, .int .i64 o3] 39
  have hz : W.heap.size < (W.alloc (.cells #[.string (⟨#[36, 100, 117, 109, 112, 111, 102, 102]⟩ : ByteArray), .int .i64 o1, .int .i64 o2, .int .i64 o3] 39)).heap.size := by simp
  have H := Lib.hid (h.later hal)
  generalize hw1 : W.alloc (.cells #[.string (⟨#[36, 100, 117, 109, 112, 111, 102, 102]⟩ : ByteArray), .int .i64 o1, .int .i64 o2, .int .i64 o3] 39) = w1 at *
  have x0 := hx.cell (j := 0) rfl
  have x1 := hx.cell (j := 1) rfl
  have x2 := hx.cell (j := 2) rfl
  have x3 := hx.cell (j := 3) rfl
  clear h hal hx
  have c4 := H.out.row.cell (j := 4) rfl
  have c5 := H.out.row.cell (j := 5) rfl
  have c6 := H.out.row.cell (j := 6) rfl
  have f4 := H.out.row.free (j := 4) (by simp [parC])
  have f5 := H.out.row.free (j := 5) (by simp [parC])
  by_cases hf : s.off = true
  · have HR := Lib.hid (turn_al (s := s) (w := (sDumpoff, o1, o2, o3)) (o := true) (by rw [hf]; rfl))
    rw [hf] at c4
    cases ho : s.opn
    all_goals
      rw [ho] at c5
      go_enter Tryz.func45, Tryz.ntmps45
      go_wp2_with fail
      refine (ps_problem c i s vo vr 10 (sDumpoff, o1, o2, o3) _ H.out hl).mono ?_
      rintro e w2 ⟨rfl, vo2, vr2, h2⟩
      have H2 := Lib.hid h2
      have c4 := h2.row.cell (j := 4) rfl
      have c5 := h2.row.cell (j := 5) rfl
      have c6 := h2.row.cell (j := 6) rfl
      have f4 := h2.row.free (j := 4) (by simp [parC])
      have f5 := h2.row.free (j := 5) (by simp [parC])
      rw [show (s.prob 10 (sDumpoff, o1, o2, o3)).off = s.off from rfl, hf] at c4
      rw [show (s.prob 10 (sDumpoff, o1, o2, o3)).skip = s.skip from rfl] at c6
      clear h2
      have H3 := Lib.hid (H2.out.opn true)
      clear hf ho
      go_wp2_with fail
      go_end0
      exact ⟨rfl, _, _, HR.out ▸ H3.out⟩
  · have hf : s.off = false := by cases h0 : s.off <;> simp_all
    have hb : (s.off == true) = false := by rw [hf]; rfl
    rw [hf] at c4
    cases hk : s.skip
    · have HR := Lib.hid (turn_go (s := s) (w := (sDumpoff, o1, o2, o3)) (o := true) hb hk)
      cases ho : s.opn
      · rw [ho, if_neg (by simp)] at HR
        rw [ho] at c5
        rw [hk] at c6
        have H2 := H
        clear hf ho hk hb
        go_enter Tryz.func45, Tryz.ntmps45
        go_wp2_with fail
        refine (ps_record c i _ _ _ (2, 0, [], []) _ (H2.out.opn true |>.offs true) hl2).mono ?_
        rintro e w3 ⟨rfl, vo3, vr3, h3⟩
        have H3 := Lib.hid h3
        clear h3
        go_wp2_with fail
        go_end0
        exact ⟨rfl, _, _, HR.out ▸ H3.out⟩
      · rw [ho, if_pos rfl] at HR
        rw [ho] at c5
        rw [hk] at c6
        go_enter Tryz.func45, Tryz.ntmps45
        go_wp2_with fail
        refine (ps_problem c i s vo vr 10 (sDumpoff, o1, o2, o3) _ H.out hl).mono ?_
        rintro e w2 ⟨rfl, vo2, vr2, h2⟩
        have H2 := Lib.hid h2
        have c4 := h2.row.cell (j := 4) rfl
        have c5 := h2.row.cell (j := 5) rfl
        have c6 := h2.row.cell (j := 6) rfl
        have f4 := h2.row.free (j := 4) (by simp [parC])
        have f5 := h2.row.free (j := 5) (by simp [parC])
        rw [show (s.prob 10 (sDumpoff, o1, o2, o3)).off = s.off from rfl, hf] at c4
        rw [show (s.prob 10 (sDumpoff, o1, o2, o3)).skip = s.skip from rfl] at c6
        clear h2
        rw [hk] at c6
        clear hf ho hk hb
        go_wp2_with fail
        refine (ps_record c i _ _ _ (2, 0, [], []) _ (H2.out.opn true |>.offs true) hl2).mono ?_
        rintro e w3 ⟨rfl, vo3, vr3, h3⟩
        have H3 := Lib.hid h3
        clear h3
        go_wp2_with fail
        go_end0
        exact ⟨rfl, _, _, HR.out ▸ H3.out⟩
    · have HR := Lib.hid (turn_sk (s := s) (w := (sDumpoff, o1, o2, o3)) (o := true) hb hk)
      cases ho : s.opn
      · rw [ho, if_neg (by simp)] at HR
        rw [ho] at c5
        rw [hk] at c6
        have H3 := Lib.hid (H.out.opn true)
        clear hf ho hk hb
        go_enter Tryz.func45, Tryz.ntmps45
        go_wp2_with fail
        go_end0
        exact ⟨rfl, _, _, HR.out ▸ H3.out⟩
      · rw [ho, if_pos rfl] at HR
        rw [ho] at c5
        rw [hk] at c6
        go_enter Tryz.func45, Tryz.ntmps45
        go_wp2_with fail
        refine (ps_problem c i s vo vr 10 (sDumpoff, o1, o2, o3) _ H.out hl).mono ?_
        rintro e w2 ⟨rfl, vo2, vr2, h2⟩
        have H2 := Lib.hid h2
        have c4 := h2.row.cell (j := 4) rfl
        have c5 := h2.row.cell (j := 5) rfl
        have c6 := h2.row.cell (j := 6) rfl
        have f4 := h2.row.free (j := 4) (by simp [parC])
        have f5 := h2.row.free (j := 5) (by simp [parC])
        rw [show (s.prob 10 (sDumpoff, o1, o2, o3)).off = s.off from rfl, hf] at c4
        rw [show (s.prob 10 (sDumpoff, o1, o2, o3)).skip = s.skip from rfl] at c6
        clear h2
        rw [hk] at c6
        have H3 := Lib.hid (H2.out.opn true)
        clear hf ho hk hb
        go_wp2_with fail
        go_end0
        exact ⟨rfl, _, _, HR.out ▸ H3.out⟩
set_option maxHeartbeats 1600000 in
theorem ps_turn_on (c : PC) (i : Int) (s : PS) (vo vr : Value) (o1 o2 o3 : Int) (W : World) (h : ParX c i s vo vr W) (hl : s.wrong.length ≤ 1000000) (hl2 : s.out.length ≤ 1000000) :
    Calls Tryz.prog 45 #[.pointer (some ⟨c.B, 0, none⟩), .agg #[.string (⟨#[36, 100, 117, 109, 112, 111, 110]⟩ : ByteArray), .int .i64 o1, .int .i64 o2, .int .i64 o3]] W (PPost c i (turnP s (sDumpon, o1, o2, o3) false)) := by
  have hal : Below W.heap.size W (W.alloc (.cells #[.string (⟨#[36, 100, 117, 109, 112, 111, 110]⟩ : ByteArray), .int .i64 o1, .int .i64 o2, .int .i64 o3] 39)) := (Below.refl _ _).alloc (Nat.le_refl _) _
  have hx := OwnRow.fresh W #[.string (⟨#[36, 100, 117, 109, 112, 111, 110]⟩ : ByteArray), .int .i64 o1, .int .i64 o2, .int .i64 o3] 39
  have hz : W.heap.size < (W.alloc (.cells #[.string (⟨#[36, 100, 117, 109, 112, 111, 110]⟩ : ByteArray), .int .i64 o1, .int .i64 o2, .int .i64 o3] 39)).heap.size := by simp
  have H := Lib.hid (h.later hal)
  generalize hw1 : W.alloc (.cells #[.string (⟨#[36, 100, 117, 109, 112, 111, 110]⟩ : ByteArray), .int .i64 o1, .int .i64 o2, .int .i64 o3] 39) = w1 at *
  have x0 := hx.cell (j := 0) rfl
  have x1 := hx.cell (j := 1) rfl
  have x2 := hx.cell (j := 2) rfl
  have x3 := hx.cell (j := 3) rfl
  clear h hal hx
  have c4 := H.out.row.cell (j := 4) rfl
  have c5 := H.out.row.cell (j := 5) rfl
  have c6 := H.out.row.cell (j := 6) rfl
  have f4 := H.out.row.free (j := 4) (by simp [parC])
  have f5 := H.out.row.free (j := 5) (by simp [parC])
  by_cases hf : s.off = false
  · have HR := Lib.hid (turn_al (s := s) (w := (sDumpon, o1, o2, o3)) (o := false) (by rw [hf]; rfl))
    rw [hf] at c4
    cases ho : s.opn
    all_goals
      rw [ho] at c5
      go_enter Tryz.func45, Tryz.ntmps45
      go_wp2_with fail
      refine (ps_problem c i s vo vr 10 (sDumpon, o1, o2, o3) _ H.out hl).mono ?_
      rintro e w2 ⟨rfl, vo2, vr2, h2⟩
      have H2 := Lib.hid h2
      have c4 := h2.row.cell (j := 4) rfl
      have c5 := h2.row.cell (j := 5) rfl
      have c6 := h2.row.cell (j := 6) rfl
      have f4 := h2.row.free (j := 4) (by simp [parC])
      have f5 := h2.row.free (j := 5) (by simp [parC])
      rw [show (s.prob 10 (sDumpon, o1, o2, o3)).off = s.off from rfl, hf] at c4
      rw [show (s.prob 10 (sDumpon, o1, o2, o3)).skip = s.skip from rfl] at c6
      clear h2
      have H3 := Lib.hid (H2.out.opn true)
      clear hf ho
      go_wp2_with fail
      go_end0
      exact ⟨rfl, _, _, HR.out ▸ H3.out⟩
  · have hf : s.off = true := by cases h0 : s.off <;> simp_all
    have hb : (s.off == false) = false := by rw [hf]; rfl
    rw [hf] at c4
    cases hk : s.skip
    · have HR := Lib.hid (turn_go (s := s) (w := (sDumpon, o1, o2, o3)) (o := false) hb hk)
      cases ho : s.opn
      · rw [ho, if_neg (by simp)] at HR
        rw [ho] at c5
        rw [hk] at c6
        have H2 := H
        clear hf ho hk hb
        go_enter Tryz.func45, Tryz.ntmps45
        go_wp2_with fail
        refine (ps_record c i _ _ _ (3, 0, [], []) _ (H2.out.opn true |>.offs false) hl2).mono ?_
        rintro e w3 ⟨rfl, vo3, vr3, h3⟩
        have H3 := Lib.hid h3
        clear h3
        go_wp2_with fail
        go_end0
        exact ⟨rfl, _, _, HR.out ▸ H3.out⟩
      · rw [ho, if_pos rfl] at HR
        rw [ho] at c5
        rw [hk] at c6
        go_enter Tryz.func45, Tryz.ntmps45
        go_wp2_with fail
        refine (ps_problem c i s vo vr 10 (sDumpon, o1, o2, o3) _ H.out hl).mono ?_
        rintro e w2 ⟨rfl, vo2, vr2, h2⟩
        have H2 := Lib.hid h2
        have c4 := h2.row.cell (j := 4) rfl
        have c5 := h2.row.cell (j := 5) rfl
        have c6 := h2.row.cell (j := 6) rfl
        have f4 := h2.row.free (j := 4) (by simp [parC])
        have f5 := h2.row.free (j := 5) (by simp [parC])
        rw [show (s.prob 10 (sDumpon, o1, o2, o3)).off = s.off from rfl, hf] at c4
        rw [show (s.prob 10 (sDumpon, o1, o2, o3)).skip = s.skip from rfl] at c6
        clear h2
        rw [hk] at c6
        clear hf ho hk hb
        go_wp2_with fail
        refine (ps_record c i _ _ _ (3, 0, [], []) _ (H2.out.opn true |>.offs false) hl2).mono ?_
        rintro e w3 ⟨rfl, vo3, vr3, h3⟩
        have H3 := Lib.hid h3
        clear h3
        go_wp2_with fail
        go_end0
        exact ⟨rfl, _, _, HR.out ▸ H3.out⟩
    · have HR := Lib.hid (turn_sk (s := s) (w := (sDumpon, o1, o2, o3)) (o := false) hb hk)
      cases ho : s.opn
      · rw [ho, if_neg (by simp)] at HR
        rw [ho] at c5
        rw [hk] at c6
        have H3 := Lib.hid (H.out.opn true)
        clear hf ho hk hb
        go_enter Tryz.func45, Tryz.ntmps45
        go_wp2_with fail
        go_end0
        exact ⟨rfl, _, _, HR.out ▸ H3.out⟩
      · rw [ho, if_pos rfl] at HR
        rw [ho] at c5
        rw [hk] at c6
        go_enter Tryz.func45, Tryz.ntmps45
        go_wp2_with fail
        refine (ps_problem c i s vo vr 10 (sDumpon, o1, o2, o3) _ H.out hl).mono ?_
        rintro e w2 ⟨rfl, vo2, vr2, h2⟩
        have H2 := Lib.hid h2
        have c4 := h2.row.cell (j := 4) rfl
        have c5 := h2.row.cell (j := 5) rfl
        have c6 := h2.row.cell (j := 6) rfl
        have f4 := h2.row.free (j := 4) (by simp [parC])
        have f5 := h2.row.free (j := 5) (by simp [parC])
        rw [show (s.prob 10 (sDumpon, o1, o2, o3)).off = s.off from rfl, hf] at c4
        rw [show (s.prob 10 (sDumpon, o1, o2, o3)).skip = s.skip from rfl] at c6
        clear h2
        rw [hk] at c6
        have H3 := Lib.hid (H2.out.opn true)
        clear hf ho hk hb
        go_wp2_with fail
        go_end0
        exact ⟨rfl, _, _, HR.out ▸ H3.out⟩
end Go.Proofs.YtgnkjcdkfcikeaaGreatDoor
