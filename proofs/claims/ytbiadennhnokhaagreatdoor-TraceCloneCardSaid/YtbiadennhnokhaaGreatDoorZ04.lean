import Derived.Test.YtbiadennhnokhaaGreatDoorZ03
namespace Go.Proofs.YtbiadennhnokhaaGreatDoor
open Go.RowKit

set_option maxHeartbeats 400000 in
set_option maxRecDepth 100000 in
theorem dec_scan_long (s : ByteArray) (w : World) (hs : 64 < s.size) (hs' : s.size ≤ maxLen) :
    Calls Tryz.prog 276 #[.string s] w (ScanPost s w) := by
  unfold maxLen at hs'
  have hn : scanS s = none := by unfold scanS; rw [if_pos hs]
  have HN := Lib.hid hn
  clear hn
  go_enter Tryz.func276, Tryz.ntmps276
  go_wp2_with fail
  refine bodyPost_ret (v := .tuple #[.agg #[.bool false, .slice none 0 0, .int .i64 0], .bool false]) (by simp [results, Tryz.results276, go_sem]) rfl ⟨(false, [], 0), .slice none 0 0, by rw [HN.out]; rfl, SlR.nil _, (by rw [HN.out]; exact fun n h => (by cases h)), by simp, by simp, by simp, ?_⟩
  exact (((Below.refl _ _).alloc (Nat.le_refl _) _).alloc (by simp) _).alloc (by simp; omega) _

theorem dec_scan_any (s : ByteArray) (w : World) (hs : s.size ≤ maxLen) : Calls Tryz.prog 276 #[.string s] w (ScanPost s w) := by
  by_cases h : s.size ≤ 64
  · exact dec_scan s w h
  · exact dec_scan_long s w (by omega) hs

/-- is the text a canonical one -/
def decOk (s : ByteArray) : Bool := match scanS s with | none => false | some n => decide (numText n = (s.data.toList, 0))

def CanPost (s : ByteArray) (w : World) (e : Ending) (w' : World) : Prop :=
  ∃ (b : Bool) (a : Option Addr) (n c : Nat) (x : Int), e = .returned (.tuple #[.agg #[.bool b, .slice a n c, .int .i64 x], .bool (decOk s)]) ∧ Below w.heap.size w w'
theorem CanPost.mk {s : ByteArray} {w w' : World} {b ok : Bool} {a : Option Addr} {n c : Nat} {x : Int} (h : ok = decOk s) (hb : Below w.heap.size w w') :
    CanPost s w (.returned (.tuple #[.agg #[.bool b, .slice a n c, .int .i64 x], .bool ok])) w' := by
  subst h; exact ⟨b, a, n, c, x, rfl, hb⟩

set_option maxHeartbeats 400000 in
set_option maxRecDepth 100000 in
theorem dec_canonical (s : ByteArray) (w : World) (hg : Glob w) (hs : s.size ≤ maxLen) :
    Calls Tryz.prog 274 #[.string s] w (CanPost s w) := by
  have HG := Lib.hid hg
  clear hg
  go_enter Tryz.func274, Tryz.ntmps274
  go_wp2_with fail
  refine (dec_scan_any s _ hs).mono ?_
  rintro e w1 ⟨m, v, rfl, hv, hm, hl, hlo, hhi, hb⟩
  obtain ⟨a, cap, rfl, hc, hcm⟩ := hv.shape
  obtain ⟨k0, k1, k2⟩ := box3 hb
  obtain ⟨f0, f1, f2⟩ := box3f hb
  have hlt : w.heap.size < w1.heap.size := by have := hb.size; simp at this; omega
  have hne : w.heap.size ≠ w1.heap.size := by omega
  cases hsc : scanS s with
  | none =>
    have hd : decOk s = false := by simp [decOk, hsc]
    have HD := Lib.hid hd
    simp only [Option.isSome_none]
    clear hm hd hsc
    go_wp2_with fail
    obtain ⟨e0, e1, e2⟩ := set3 k0 k1 k2 (.bool false) (.slice none 0 0) (.int .i64 0)
    have e0 := cell_alloc e0 (.cells #[.bool m.1, .slice a m.2.1.length cap, .int .i64 m.2.2] 280)
    have e1 := cell_alloc e1 (.cells #[.bool m.1, .slice a m.2.1.length cap, .int .i64 m.2.2] 280)
    have e2 := cell_alloc e2 (.cells #[.bool m.1, .slice a m.2.1.length cap, .int .i64 m.2.2] 280)
    refine bodyPost_ret (v := .tuple #[.agg #[.bool false, .slice none 0 0, .int .i64 0], .bool false]) (by simp [results, Tryz.results274, go_sem, e0, e1, e2]) rfl (CanPost.mk HD.out.symm ?_)
    exact ((((ext_alloc hb).setCell (by simp) _).setCell (by simp) _).setCell (by simp) _).alloc (by simp; omega) _
  | some n =>
    obtain rfl := hm n hsc
    simp only [Option.isSome_some]
    clear hm
    have HSC := Lib.hid hsc
    clear hsc
    have HV := Lib.hid hv
    have HB := Lib.hid hb
    have hb1 := ext_alloc hb
    have hw1 : Below w1.heap.size w1 (w1.alloc (.cells #[.bool m.1, .slice a m.2.1.length cap, .int .i64 m.2.2] 280)) := (Below.refl _ _).alloc (Nat.le_refl _) _
    have HT := dec_text m.1 (.slice a m.2.1.length cap) m.2.1 m.2.2 _ (HG.out.below (ext_trans hb1 hw1)) (hv.below hw1) hl hlo hhi
    have HT := Lib.hid HT
    have HW := Lib.hid (ext_trans hb1 hw1)
    clear hv hb hb1 hw1
    go_wp2_with fail
    refine HT.out.mono ?_
    rintro e w2 ⟨rfl, hb2⟩
    obtain ⟨j0, j1, j2⟩ := box3 hb2
    have g0 := (hb2.cell (p := ⟨w.heap.size, 0, none⟩) (by simp; omega)).trans (cell_alloc k0 _)
    have g1 := (hb2.cell (p := ⟨w.heap.size, 1, none⟩) (by simp; omega)).trans (cell_alloc k1 _)
    have g2 := (hb2.cell (p := ⟨w.heap.size, 2, none⟩) (by simp; omega)).trans (cell_alloc k2 _)
    have p0 := (hb2.frozen (p := ⟨w.heap.size, 0, none⟩) (by simp; omega)).trans (((Below.refl _ w1).alloc (Nat.le_refl _) (.cells #[.bool m.1, .slice a m.2.1.length cap, .int .i64 m.2.2] 280)).frozen (p := ⟨w.heap.size, 0, none⟩) hlt |>.trans f0)
    have p1 := (hb2.frozen (p := ⟨w.heap.size, 1, none⟩) (by simp; omega)).trans (((Below.refl _ w1).alloc (Nat.le_refl _) (.cells #[.bool m.1, .slice a m.2.1.length cap, .int .i64 m.2.2] 280)).frozen (p := ⟨w.heap.size, 1, none⟩) hlt |>.trans f1)
    have p2 := (hb2.frozen (p := ⟨w.heap.size, 2, none⟩) (by simp; omega)).trans (((Below.refl _ w1).alloc (Nat.le_refl _) (.cells #[.bool m.1, .slice a m.2.1.length cap, .int .i64 m.2.2] 280)).frozen (p := ⟨w.heap.size, 2, none⟩) hlt |>.trans f2)
    have hok : decOk s = decide (numText m = (s.data.toList, 0)) := by unfold decOk; rw [HSC.out]
    have HB2 := Lib.hid hb2
    have HOK := Lib.hid hok
    clear hb2 hok k0 k1 k2 f0 f1 f2
    go_wp2_with fail
    all_goals
      obtain ⟨e0, e1, e2⟩ := set3 g0 g1 g2 (.bool m.1) (.slice a m.2.1.length cap) (.int .i64 m.2.2)
    · refine bodyPost_ret (v := .tuple #[.agg #[.bool m.1, .slice a m.2.1.length cap, .int .i64 m.2.2], .bool ((numText (m.1, m.2.1, m.2.2)).1 == s.toList)]) (by simp [results, Tryz.results274, go_sem, e0, e1, e2]) rfl (CanPost.mk ?_ ?_)
      · have h : (numText (m.1, m.2.1, m.2.2)).2 = 0 := by assumption
        rw [HOK.out, Bool.eq_iff_iff, beq_iff_eq, decide_eq_true_iff, ByteArray.toList_eq]
        exact ⟨fun h1 => Prod.ext h1 h, fun h1 => congrArg Prod.fst h1⟩
      · exact (((ext_trans (ext_alloc HB.out) (ext_alloc HB2.out)).setCell (by simp) _).setCell (by simp) _).setCell (by simp) _
    · refine bodyPost_ret (v := .tuple #[.agg #[.bool m.1, .slice a m.2.1.length cap, .int .i64 m.2.2], .bool false]) (by simp [results, Tryz.results274, go_sem, e0, e1, e2]) rfl (CanPost.mk ?_ ?_)
      · have h : ¬ (numText (m.1, m.2.1, m.2.2)).2 = 0 := by assumption
        rw [HOK.out, eq_comm, decide_eq_false_iff_not]
        exact fun h1 => h (congrArg Prod.snd h1)
      · exact (((ext_trans (ext_alloc HB.out) (ext_alloc HB2.out)).setCell (by simp) _).setCell (by simp) _).setCell (by simp) _

set_option maxHeartbeats 400000 in
set_option maxRecDepth 100000 in
theorem dec_Valid (s : ByteArray) (w : World) (hg : Glob w) (hs : s.size ≤ maxLen) :
    Calls Tryz.prog 234 #[.string s] w fun e w' => e = .returned (.bool (decOk s)) ∧ Below w.heap.size w w' := by
  go_enter Tryz.func234, Tryz.ntmps234
  go_wp2_with fail
  refine (dec_canonical s _ hg hs).mono ?_
  rintro e w1 ⟨b, a, n, c, x, rfl, hb⟩
  go_wp2_with fail
  go_ret
  exact ⟨rfl, hb.alloc hb.size _⟩
end Go.Proofs.YtbiadennhnokhaaGreatDoor
