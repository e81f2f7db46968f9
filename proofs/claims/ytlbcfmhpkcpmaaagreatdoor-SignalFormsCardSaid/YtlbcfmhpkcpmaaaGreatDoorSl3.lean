import Derived.Test.YtlbcfmhpkcpmaaaGreatDoorSl2
namespace Go.Proofs.YtlbcfmhpkcpmaaaGreatDoor
open Go.RowKit

theorem chs_cut (l : List Ch) (i j : Nat) (hij : i ≤ j) : chs l = chs (l.take i) ++ (chs ((l.take j).drop i) ++ chs (l.drop j)) := by
  rw [← chs_append, ← chs_append]
  congr 1
  have h3 : l.take i = (l.take j).take i := by rw [List.take_take, Nat.min_eq_left hij]
  rw [h3, ← List.append_assoc, List.take_append_drop, List.take_append_drop]

/-- the cells of a part -/
theorem SlR.sub {w : World} {a : Option Addr} {cap : Nat} {l : List Ch} (h : SlR w (.slice a l.length cap) l.length (chs l)) (i j : Nat) (hij : i ≤ j) (hj : j ≤ l.length) :
    SlR w (.slice (if cap = i then a else a.map (·.add (i * 2))) ((l.take j).drop i).length (cap - i)) ((l.take j).drop i).length (chs ((l.take j).drop i)) := by
  obtain ⟨a', cap', hv, h1, h2, h3, h4⟩ := h
  injection hv with e1 _ e3
  subst e1 e3
  have hl : ((l.take j).drop i).length = j - i := by simp; omega
  refine ⟨_, _, rfl, by omega, by omega, fun h => ?_, fun hn => ?_⟩
  · by_cases hc : cap = i
    · omega
    · rw [if_neg hc] at h
      have := h3 (by simpa using h)
      omega
  · obtain ⟨b, o, rfl, hc⟩ := h4 (by omega)
    refine ⟨b, o + i * 2, by rw [if_neg (by omega)]; show some ((⟨b, o, none⟩ : Addr).add (i * 2)) = _; rw [addr_add], fun x u hx => ?_⟩
    have hx' := (List.getElem?_eq_some_iff.1 hx).1
    have h5 : (chs (l.take i)).length = i * 2 := by rw [chs_len]; simp; omega
    have := hc (i * 2 + x) u (by
      rw [chs_cut l i j hij, List.getElem?_append_right (by omega), h5, Nat.add_sub_cancel_left, List.getElem?_append_left hx']
      exact hx)
    rwa [← Nat.add_assoc] at this

theorem SlR.rest {w : World} {a : Option Addr} {cap : Nat} {l : List Ch} (h : SlR w (.slice a l.length cap) l.length (chs l)) (i : Nat) (hi : i ≤ l.length) :
    SlR w (.slice (if cap = i then a else a.map (·.add (i * 2))) (l.length - i) (cap - i)) (l.length - i) (chs (l.drop i)) := by
  have := h.sub i l.length hi (Nat.le_refl _)
  rw [List.take_length, List.length_drop] at this
  exact this

theorem ch_size (w : World) : (Go.sizeOf 36).run Tryz.prog w = .ok 2 w := by kernel_rfl

/-- 'l[i:]', its value not looked into -/
theorem slice_tail (a : Option Addr) (cap : Nat) (l : List Ch) (i : Nat) (hi : i ≤ l.length) :
    ∃ ad c, (∀ w, (Instr.slice 22 (.slice a l.length cap) (some (.int .i64 (i : Int))) none none).run Tryz.prog w = .ok (.slice ad (l.drop i).length c) w) ∧
      ∀ W, SlR W (.slice a l.length cap) l.length (chs l) → SlR W (.slice ad (l.drop i).length c) (l.drop i).length (chs (l.drop i)) := by
  refine ⟨if cap = i then a else a.map (·.add (i * 2)), cap - i, fun w => ?_, fun W h => ?_⟩
  · have ht : Tryz.prog.underlying 22 = some (.slice 36) := Tryz.underlying22
    have ht' : Tryz.prog.underlying 22 = some (.slice (Tryz.prog.elem 22)) := by simp [Program.elem, ht]
    have he : Tryz.prog.elem 22 = 36 := by simp [Program.elem, ht]
    rw [run_slice_l w 22 a l.length cap ht' .i64 _ (by omega) (by omega), he, ch_size]
    simp only [Result.andThen, sliced, List.length_drop, Int.toNat_natCast]
  · have := h.sub i l.length hi (Nat.le_refl _)
    rw [List.take_length] at this
    exact this

/-- 'l[:i]' -/
theorem slice_head (a : Option Addr) (cap : Nat) (l : List Ch) (i : Nat) (hi : i ≤ l.length) (hc : l.length ≤ cap) :
    ∃ ad c, (∀ w, (Instr.slice 22 (.slice a l.length cap) none (some (.int .i64 (i : Int))) none).run Tryz.prog w = .ok (.slice ad (l.take i).length c) w) ∧
      ∀ W, SlR W (.slice a l.length cap) l.length (chs l) → SlR W (.slice ad (l.take i).length c) (l.take i).length (chs (l.take i)) := by
  refine ⟨if cap = 0 then a else a.map (·.add (0 * 2)), cap - 0, fun w => ?_, fun W h => ?_⟩
  · have ht : Tryz.prog.underlying 22 = some (.slice 36) := Tryz.underlying22
    have ht' : Tryz.prog.underlying 22 = some (.slice (Tryz.prog.elem 22)) := by simp [Program.elem, ht]
    have he : Tryz.prog.elem 22 = 36 := by simp [Program.elem, ht]
    rw [run_slice_h w 22 a l.length cap ht' .i64 _ (by omega) (by omega), he, ch_size]
    simp only [Result.andThen, sliced, List.length_take, Int.toNat_natCast, Nat.sub_zero, Nat.min_eq_left hi]
  · have := h.sub 0 i (Nat.zero_le _) hi
    simpa only [List.drop_zero] using this
end Go.Proofs.YtlbcfmhpkcpmaaaGreatDoor
