import Derived.Test.YtlbcfmhpkcpmaaaGreatDoorSig4
namespace Go.Proofs.YtlbcfmhpkcpmaaaGreatDoor
open Go.RowKit

/-- what Previous returns -/
def prevR (k n : Int) (l : List Ch) (t : Int) : Ch × Int := if sv k n l = false then ((0, ⟨#[]⟩), 1) else if t < 0 ∨ 1099511627777 < t then ((0, ⟨#[]⟩), 2) else chR l ((lo l t : Int) - 1)

set_option maxHeartbeats 400000 in
set_option maxRecDepth 100000 in
theorem sig_Previous (k n : Int) (v : Value) (l : List Ch) (t : Int) (w : World) (hg : Glob w) (hs : SlR w v l.length (chs l)) (hf : Fit l) :
    Calls Tryz.prog 24 #[.agg #[.int .i64 k, .int .i64 n, v], .int .i64 t] w (ChPost (prevR k n l t) w) := by
  obtain ⟨a, cap, rfl, hc, hm⟩ := hs.shape
  have hbw : Below w.heap.size w ((w.alloc (.cells #[.int .i64 k, .int .i64 n, .slice a l.length cap] 24)).alloc (.cells #[.int .i64 0, .string ⟨#[]⟩] 36)) := ((Below.refl _ _).alloc (Nat.le_refl _) _).alloc (by simp) _
  have HV := Lib.hid (sig_Valid k n _ l _ (hg.below hbw) (hs.below hbw) hf)
  have HS := Lib.hid hs
  have hln := hf.1
  unfold maxLen at hm
  clear hg hs hf hbw
  cases hv : sv k n l
  · have HR := Lib.hid (show prevR k n l t = ((0, ⟨#[]⟩), 1) by unfold prevR; rw [if_pos hv])
    go_enter Tryz.func24, Tryz.ntmps24
    go_wp2_with fail
    refine HV.out.mono ?_
    rintro e w1 ⟨rfl, hb⟩
    have hb0 : Below (w.alloc (.cells #[.int .i64 k, .int .i64 n, .slice a l.length cap] 24)).heap.size (w.alloc (.cells #[.int .i64 k, .int .i64 n, .slice a l.length cap] 24)) w1 := ext_alloc hb
    obtain ⟨c0, c1, c2⟩ := box3 hb0
    obtain ⟨p0, p1, q0, q1⟩ := box2r hb
    rw [hv]
    clear hv
    go_wp2_with fail
    refine bodyPost_ret (v := .tuple #[.agg #[.int .i64 0, .string ⟨#[]⟩], .int .i64 1]) (by simp [results, Tryz.results24, go_sem, p0, p1]) rfl ⟨by rw [HR.out], ?_⟩
    exact ((ext_alloc hb0).setCell (by simp) _).setCell (by simp) _
  · obtain ⟨hst, -, -, -⟩ := sv_sorted hv
    by_cases ht : t < 0 ∨ 1099511627777 < t
    · have HR := Lib.hid (show prevR k n l t = ((0, ⟨#[]⟩), 2) by unfold prevR; rw [if_neg (by rw [hv]; simp), if_pos ht])
      clear hst
      go_enter Tryz.func24, Tryz.ntmps24
      go_wp2_with fail
      refine HV.out.mono ?_
      rintro e w1 ⟨rfl, hb⟩
      have hb0 : Below (w.alloc (.cells #[.int .i64 k, .int .i64 n, .slice a l.length cap] 24)).heap.size (w.alloc (.cells #[.int .i64 k, .int .i64 n, .slice a l.length cap] 24)) w1 := ext_alloc hb
      obtain ⟨c0, c1, c2⟩ := box3 hb0
      obtain ⟨p0, p1, q0, q1⟩ := box2r hb
      rw [hv]
      clear hv
      rcases ht with ht | ht
      all_goals
        go_wp2_with fail
      all_goals
        refine bodyPost_ret (v := .tuple #[.agg #[.int .i64 0, .string ⟨#[]⟩], .int .i64 2]) (by simp [results, Tryz.results24, go_sem, p0, p1]) rfl ⟨by rw [HR.out], ?_⟩
        exact ((ext_alloc hb0).setCell (by simp) _).setCell (by simp) _
    · have HR := Lib.hid (show prevR k n l t = chR l ((lo l t : Int) - 1) by unfold prevR; rw [if_neg (by rw [hv]; simp), if_neg ht])
      obtain ⟨ht0, ht1⟩ : 0 ≤ t ∧ t ≤ 1099511627777 := by omega
      have HST := Lib.hid hst
      clear hst ht
      go_enter Tryz.func24, Tryz.ntmps24
      go_wp2_with fail
      refine HV.out.mono ?_
      rintro e w1 ⟨rfl, hb⟩
      have hb0 : Below (w.alloc (.cells #[.int .i64 k, .int .i64 n, .slice a l.length cap] 24)).heap.size (w.alloc (.cells #[.int .i64 k, .int .i64 n, .slice a l.length cap] 24)) w1 := ext_alloc hb
      obtain ⟨c0, c1, c2⟩ := box3 hb0
      obtain ⟨p0, p1, q0, q1⟩ := box2r hb
      rw [hv]
      have HS1 := Lib.hid (HS.out.below (ext_alloc hb0))
      have HB0 := Lib.hid (ext_alloc hb0)
      clear hv hb hb0
      have hwrap : IntKind.i64.wrap ((lo l t : Int) - 1) = (lo l t : Int) - 1 := IntWalk.i64_in _ (by have := lo_le l t; omega)
      go_upto_region 5 with fail
      go_region_held3 (fun w' => w'.cell? ⟨w.heap.size, 0, none⟩ = some (.int .i64 k) ∧ w'.cell? ⟨w.heap.size, 1, none⟩ = some (.int .i64 n) ∧ w'.cell? ⟨w.heap.size, 2, none⟩ = some (.slice a l.length cap)) (first | exact ⟨r0, r1, r2⟩ | exact ⟨s0, s1, s2⟩ | go_keep)
        (first
          | (go_at_call 57; (with_reducible refine (sig_first k n _ l t _ ?_ hln HST.out).mono ?_); (exact HS1.out); rintro e w2 ⟨rfl, hb2⟩; have s0 := (hb2.cell (p := ⟨w.heap.size, 0, none⟩) (cell_lt c0)).trans c0; have s1 := (hb2.cell (p := ⟨w.heap.size, 1, none⟩) (cell_lt c0)).trans c1; have s2 := (hb2.cell (p := ⟨w.heap.size, 2, none⟩) (cell_lt c0)).trans c2; have HB2 := Lib.hid hb2; clear hb2)
          | (go_at_call 56; (with_reducible refine (sig_change k n _ l ((lo l t : Int) - 1) _ ?_).mono ?_); (exact SlR.below (w := w1.drew) HS1.out HB2.out); rintro e w3 ⟨rfl, hb3⟩; have hb23 := ext_trans HB2.out hb3; have r0 := (hb23.cell (p := ⟨w.heap.size, 0, none⟩) (cell_lt c0)).trans c0; have r1 := (hb23.cell (p := ⟨w.heap.size, 1, none⟩) (cell_lt c0)).trans c1; have r2 := (hb23.cell (p := ⟨w.heap.size, 2, none⟩) (cell_lt c0)).trans c2; have p0' := (hb23.cell (p := ⟨w.heap.size + 1, 0, none⟩) (cell_lt p0)).trans p0; have p1' := (hb23.cell (p := ⟨w.heap.size + 1, 1, none⟩) (cell_lt p0)).trans p1; have q0' := (hb23.frozen (p := ⟨w.heap.size + 1, 0, none⟩) (cell_lt p0)).trans q0; have q1' := (hb23.frozen (p := ⟨w.heap.size + 1, 1, none⟩) (cell_lt p0)).trans q1; have HB3 := Lib.hid hb23; clear hb23 hb3))
      go_wp2_with fail
      refine bodyPost_ret (v := .tuple #[.agg #[.int .i64 (chR l ((lo l t : Int) - 1)).1.1, .string (chR l ((lo l t : Int) - 1)).1.2], .int .i64 (chR l ((lo l t : Int) - 1)).2]) (by simp [results, Tryz.results24, go_sem, p0', p1']) rfl ⟨by rw [HR.out], ?_⟩
      exact ((ext_trans HB0.out.drew HB3.out).setCell (by simp) _).setCell (by simp) _


/-- what At returns -/
def atR (k n : Int) (l : List Ch) (t : Int) : ByteArray × Int := if sv k n l = false then (⟨#[]⟩, 1) else if t < 0 ∨ 1099511627776 < t then (⟨#[]⟩, 2) else (valAt k n l t, 0)
set_option maxHeartbeats 400000 in
set_option maxRecDepth 100000 in
theorem sig_At (k n : Int) (v : Value) (l : List Ch) (t : Int) (w : World) (hg : Glob w) (hs : SlR w v l.length (chs l)) (hf : Fit l) :
    Calls Tryz.prog 20 #[.agg #[.int .i64 k, .int .i64 n, v], .int .i64 t] w fun e w' => e = .returned (.tuple #[.string (atR k n l t).1, .int .i64 (atR k n l t).2]) ∧ Below w.heap.size w w' := by
  obtain ⟨a, cap, rfl, hc, hm⟩ := hs.shape
  have hbw : Below w.heap.size w (w.alloc (.cells #[.int .i64 k, .int .i64 n, .slice a l.length cap] 24)) := (Below.refl _ _).alloc (Nat.le_refl _) _
  have HV := Lib.hid (sig_Valid k n _ l _ (hg.below hbw) (hs.below hbw) hf)
  have HS := Lib.hid hs
  have hln := hf.1
  unfold maxLen at hm
  clear hg hs hf hbw
  cases hv : sv k n l
  · have HR := Lib.hid (show atR k n l t = (⟨#[]⟩, 1) by unfold atR; rw [if_pos hv])
    go_enter Tryz.func20, Tryz.ntmps20
    go_wp2_with fail
    refine HV.out.mono ?_
    rintro e w1 ⟨rfl, hb⟩
    rw [hv]
    clear hv
    go_wp2_with fail
    go_ret2
    exact ⟨ret_str_int HR.out.symm, ext_alloc hb⟩
  obtain ⟨hst, -, -, -⟩ := sv_sorted hv
  by_cases ht : t < 0 ∨ 1099511627776 < t
  · have HR := Lib.hid (show atR k n l t = (⟨#[]⟩, 2) by unfold atR; rw [if_neg (by rw [hv]; simp), if_pos ht])
    clear hst
    go_enter Tryz.func20, Tryz.ntmps20
    go_wp2_with fail
    refine HV.out.mono ?_
    rintro e w1 ⟨rfl, hb⟩
    rw [hv]
    clear hv
    rcases ht with ht | ht
    all_goals
      go_wp2_with fail
    all_goals
      go_ret2
      exact ⟨ret_str_int HR.out.symm, ext_alloc hb⟩
  · have HR := Lib.hid (show atR k n l t = (valAt k n l t, 0) by unfold atR; rw [if_neg (by rw [hv]; simp), if_neg ht])
    obtain ⟨ht0, ht1⟩ : 0 ≤ t ∧ t ≤ 1099511627776 := by omega
    have HST := Lib.hid hst
    clear hst ht
    go_enter Tryz.func20, Tryz.ntmps20
    go_wp2_with fail
    refine HV.out.mono ?_
    rintro e w1 ⟨rfl, hb⟩
    obtain ⟨c0, c1, c2⟩ := box3 hb
    rw [hv]
    have HS1 := Lib.hid (HS.out.below (ext_alloc hb))
    clear hv
    go_wp2_with fail
    refine (sig_at k n _ l t _ HS1.out hln HST.out (by omega) (by omega)).mono ?_
    rintro e w2 ⟨rfl, hb2⟩
    go_wp2_with fail
    go_ret2
    exact ⟨ret_str_int HR.out.symm, ext_trans (ext_alloc hb) hb2⟩
end Go.Proofs.YtlbcfmhpkcpmaaaGreatDoor
