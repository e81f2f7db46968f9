import Derived.Test.YtlbcfmhpkcpmaaaGreatDoorSig3
namespace Go.Proofs.YtlbcfmhpkcpmaaaGreatDoor
open Go.RowKit

theorem svGo_sorted (k n : Int) : ∀ (l : List Ch) (a : Int) (v : ByteArray), svGo k n a v l = true → (∀ j (hj : j < l.length), a < l[j].1 ∧ l[j].1 ≤ 1099511627776 ∧ vv k n l[j].2 = true) ∧ Sorted l
  | [], a, v, _ => ⟨fun j hj => by simp at hj, fun i j hi => by simp at hi⟩
  | c :: l, a, v, h => by
    unfold svGo at h
    split at h
    · cases h
    · rename_i h1
      split at h
      · cases h
      · rename_i h2
        split at h
        · cases h
        · obtain ⟨h3, h4⟩ := svGo_sorted k n l c.1 c.2 h
          refine ⟨fun j hj => ?_, fun i j hi hj hij => ?_⟩
          · cases j with
            | zero => exact ⟨by simp; omega, by simp; omega, by simpa using h2⟩
            | succ j =>
              have := h3 j (by simpa using hj)
              simp only [List.getElem_cons_succ]
              exact ⟨by omega, this.2⟩
          · cases j with
            | zero => omega
            | succ j =>
              cases i with
              | zero => simpa using (h3 j (by simpa using hj)).1
              | succ i => simpa using h4 i j (by simpa using hi) (by simpa using hj) (by omega)
theorem sv_sorted {k n : Int} {l : List Ch} (h : sv k n l = true) : Sorted l ∧ l.length ≤ 4096 ∧ vt k n = true ∧ ∀ j (hj : j < l.length), 0 ≤ l[j].1 ∧ l[j].1 ≤ 1099511627776 ∧ vv k n l[j].2 = true := by
  unfold sv at h
  rw [Bool.and_eq_true, Bool.and_eq_true, decide_eq_true_iff] at h
  obtain ⟨⟨h1, h2⟩, h3⟩ := h
  obtain ⟨h4, h5⟩ := svGo_sorted k n l _ _ h3
  exact ⟨h5, h2, h1, fun j hj => by have := h4 j hj; exact ⟨by omega, this.2⟩⟩

theorem box2r {w W : World} {X : Obj} {x y : Value} {T : TypeId} (hb : Below ((w.alloc X).alloc (.cells #[x, y] T)).heap.size ((w.alloc X).alloc (.cells #[x, y] T)) W) :
    W.cell? ⟨w.heap.size + 1, 0, none⟩ = some x ∧ W.cell? ⟨w.heap.size + 1, 1, none⟩ = some y ∧ W.frozen? ⟨w.heap.size + 1, 0, none⟩ = false ∧ W.frozen? ⟨w.heap.size + 1, 1, none⟩ = false := by
  have h := fun i => boxN hb i
  simp only [World.size_alloc] at h
  exact ⟨(h 0).1, (h 1).1, (h 0).2, (h 1).2⟩
/-- what Next returns -/
def nextR (k n : Int) (l : List Ch) (t : Int) : Ch × Int := if sv k n l = false then ((0, ⟨#[]⟩), 1) else if t < -1 ∨ 1099511627776 < t then ((0, ⟨#[]⟩), 2) else chR l (lo l (t + 1))

set_option maxHeartbeats 400000 in
set_option maxRecDepth 100000 in
theorem sig_Next (k n : Int) (v : Value) (l : List Ch) (t : Int) (w : World) (hg : Glob w) (hs : SlR w v l.length (chs l)) (hf : Fit l) :
    Calls Tryz.prog 22 #[.agg #[.int .i64 k, .int .i64 n, v], .int .i64 t] w (ChPost (nextR k n l t) w) := by
  obtain ⟨a, cap, rfl, hc, hm⟩ := hs.shape
  have hbw : Below w.heap.size w ((w.alloc (.cells #[.int .i64 k, .int .i64 n, .slice a l.length cap] 24)).alloc (.cells #[.int .i64 0, .string ⟨#[]⟩] 36)) := ((Below.refl _ _).alloc (Nat.le_refl _) _).alloc (by simp) _
  have HV := Lib.hid (sig_Valid k n _ l _ (hg.below hbw) (hs.below hbw) hf)
  have HS := Lib.hid hs
  have hln := hf.1
  unfold maxLen at hm
  clear hg hs hf hbw
  cases hv : sv k n l
  · have HR := Lib.hid (show nextR k n l t = ((0, ⟨#[]⟩), 1) by unfold nextR; rw [if_pos hv])
    go_enter Tryz.func22, Tryz.ntmps22
    go_wp2_with fail
    refine HV.out.mono ?_
    rintro e w1 ⟨rfl, hb⟩
    have hb0 : Below (w.alloc (.cells #[.int .i64 k, .int .i64 n, .slice a l.length cap] 24)).heap.size (w.alloc (.cells #[.int .i64 k, .int .i64 n, .slice a l.length cap] 24)) w1 := ext_alloc hb
    obtain ⟨c0, c1, c2⟩ := box3 hb0
    obtain ⟨p0, p1, q0, q1⟩ := box2r hb
    rw [hv]
    clear hv
    go_wp2_with fail
    refine bodyPost_ret (v := .tuple #[.agg #[.int .i64 0, .string ⟨#[]⟩], .int .i64 1]) (by simp [results, Tryz.results22, go_sem, p0, p1]) rfl ⟨by rw [HR.out], ?_⟩
    exact ((ext_alloc hb0).setCell (by simp) _).setCell (by simp) _
  · obtain ⟨hst, -, -, -⟩ := sv_sorted hv
    by_cases ht : t < -1 ∨ 1099511627776 < t
    · have HR := Lib.hid (show nextR k n l t = ((0, ⟨#[]⟩), 2) by unfold nextR; rw [if_neg (by rw [hv]; simp), if_pos ht])
      clear hst
      go_enter Tryz.func22, Tryz.ntmps22
      go_wp2_with fail
      refine HV.out.mono ?_
      rintro e w1 ⟨rfl, hb⟩
      have hb0 : Below (w.alloc (.cells #[.int .i64 k, .int .i64 n, .slice a l.length cap] 24)).heap.size (w.alloc (.cells #[.int .i64 k, .int .i64 n, .slice a l.length cap] 24)) w1 := ext_alloc hb
      obtain ⟨c0, c1, c2⟩ := box3 hb0
      obtain ⟨p0, p1, q0, q1⟩ := box2r hb
      rw [hv]
      clear hv
      rcases ht with ht | ht
      all_goals
        go_wp2_with fail
      all_goals
        refine bodyPost_ret (v := .tuple #[.agg #[.int .i64 0, .string ⟨#[]⟩], .int .i64 2]) (by simp [results, Tryz.results22, go_sem, p0, p1]) rfl ⟨by rw [HR.out], ?_⟩
        exact ((ext_alloc hb0).setCell (by simp) _).setCell (by simp) _
    · have HR := Lib.hid (show nextR k n l t = chR l (lo l (t + 1)) by unfold nextR; rw [if_neg (by rw [hv]; simp), if_neg ht])
      obtain ⟨ht0, ht1⟩ : -1 ≤ t ∧ t ≤ 1099511627776 := by omega
      have HST := Lib.hid hst
      clear hst ht
      go_enter Tryz.func22, Tryz.ntmps22
      go_wp2_with fail
      refine HV.out.mono ?_
      rintro e w1 ⟨rfl, hb⟩
      have hb0 : Below (w.alloc (.cells #[.int .i64 k, .int .i64 n, .slice a l.length cap] 24)).heap.size (w.alloc (.cells #[.int .i64 k, .int .i64 n, .slice a l.length cap] 24)) w1 := ext_alloc hb
      obtain ⟨c0, c1, c2⟩ := box3 hb0
      obtain ⟨p0, p1, q0, q1⟩ := box2r hb
      rw [hv]
      have HS1 := Lib.hid (HS.out.below (ext_alloc hb0))
      have HB0 := Lib.hid (ext_alloc hb0)
      clear hv hb hb0
      have hwrap : IntKind.i64.wrap (t + 1) = t + 1 := IntWalk.i64_in _ (by omega)
      go_upto_region 5 with fail
      go_region_held3 (fun w' => w'.cell? ⟨w.heap.size, 0, none⟩ = some (.int .i64 k) ∧ w'.cell? ⟨w.heap.size, 1, none⟩ = some (.int .i64 n) ∧ w'.cell? ⟨w.heap.size, 2, none⟩ = some (.slice a l.length cap)) (first | exact ⟨r0, r1, r2⟩ | exact ⟨s0, s1, s2⟩ | go_keep)
        (first
          | (go_at_call 57; (with_reducible refine (sig_first k n _ l (t + 1) _ ?_ hln HST.out).mono ?_); (exact HS1.out); rintro e w2 ⟨rfl, hb2⟩; have s0 := (hb2.cell (p := ⟨w.heap.size, 0, none⟩) (cell_lt c0)).trans c0; have s1 := (hb2.cell (p := ⟨w.heap.size, 1, none⟩) (cell_lt c0)).trans c1; have s2 := (hb2.cell (p := ⟨w.heap.size, 2, none⟩) (cell_lt c0)).trans c2; have HB2 := Lib.hid hb2; clear hb2)
          | (go_at_call 56; (with_reducible refine (sig_change k n _ l (lo l (t + 1)) _ ?_).mono ?_); (exact SlR.below (w := w1.drew) HS1.out HB2.out); rintro e w3 ⟨rfl, hb3⟩; have hb23 := ext_trans HB2.out hb3; have r0 := (hb23.cell (p := ⟨w.heap.size, 0, none⟩) (cell_lt c0)).trans c0; have r1 := (hb23.cell (p := ⟨w.heap.size, 1, none⟩) (cell_lt c0)).trans c1; have r2 := (hb23.cell (p := ⟨w.heap.size, 2, none⟩) (cell_lt c0)).trans c2; have p0' := (hb23.cell (p := ⟨w.heap.size + 1, 0, none⟩) (cell_lt p0)).trans p0; have p1' := (hb23.cell (p := ⟨w.heap.size + 1, 1, none⟩) (cell_lt p0)).trans p1; have q0' := (hb23.frozen (p := ⟨w.heap.size + 1, 0, none⟩) (cell_lt p0)).trans q0; have q1' := (hb23.frozen (p := ⟨w.heap.size + 1, 1, none⟩) (cell_lt p0)).trans q1; have HB3 := Lib.hid hb23; clear hb23 hb3))
      go_wp2_with fail
      refine bodyPost_ret (v := .tuple #[.agg #[.int .i64 (chR l (lo l (t + 1))).1.1, .string (chR l (lo l (t + 1))).1.2], .int .i64 (chR l (lo l (t + 1))).2]) (by simp [results, Tryz.results22, go_sem, p0', p1']) rfl ⟨by rw [HR.out], ?_⟩
      exact ((ext_trans HB0.out.drew HB3.out).setCell (by simp) _).setCell (by simp) _

end Go.Proofs.YtlbcfmhpkcpmaaaGreatDoor
