import Derived.Test.YtimeilkelnljnaaGreatDoorSig5
import Derived.Lib.LazyBuf
namespace Go.Proofs.YtimeilkelnljnaaGreatDoor
open Go.RowKit

theorem change_info : (Tryz.prog.info? 75).map (fun i => (i.zero, i.size, i.bytes)) = some (some (.agg #[.int .i64 0, .string ⟨#[]⟩]), 2, 24) := by kernel_rfl
theorem chs_one (l : List Ch) : ∀ u ∈ chs l, u.oneCell' = true := by
  induction l with
  | nil => intro u hu; simp [chs] at hu
  | cons c l ih =>
    intro u hu
    rw [chs_cons] at hu
    rcases List.mem_cons.1 hu with rfl | hu
    · rfl
    rcases List.mem_cons.1 hu with rfl | hu
    · rfl
    · exact ih u hu
/-- the cells of a slice of changes, for append -/
theorem SlR.news {w : World} {ad : Addr} {n cap : Nat} {xs : List Value} (h : SlR w (.slice (some ad) n cap) n xs) (hx : n = 0 → xs = []) : ∀ j u, xs[j]? = some u → w.cell? (ad.add j) = some u := by
  intro j u hj
  rcases Nat.eq_zero_or_pos n with h0 | h0
  · rw [hx h0] at hj; simp at hj
  · obtain ⟨b, o, cap', hv, -, -, hc⟩ := h.at h0
    injection hv with e1 _ _
    injection e1 with e1
    subst e1
    rw [addr_add]; exact hc j u hj
theorem chs_nil_of (l : List Ch) (h : l.length = 0) : chs l = [] := by rw [List.length_eq_zero_iff.1 h]; rfl

set_option maxHeartbeats 400000 in
set_option maxRecDepth 100000 in
theorem clone_ch (v : Value) (l : List Ch) (w : World) (hs : SlR w v l.length (chs l)) (hn : l.length ≤ 1000000) :
    Calls Tryz.prog 55 #[v] w fun e w' => ∃ v', e = .returned v' ∧ w'.ownsRow w.heap.size 75 2 v' l.length (chs l) ∧ Below w.heap.size w w' := by
  obtain ⟨a, cap, rfl, hc, hm, hz, hat⟩ := hs
  have hs : SlR w (.slice a l.length cap) l.length (chs l) := ⟨a, cap, rfl, hc, hm, hz, hat⟩
  cases a with
  | none =>
    have hcap := hz rfl
    subst hcap
    have hq := Lib.run_eql_slice_nil (P := Tryz.prog) w 35 75 none l.length 0 0 0 Tryz.underlying35
    have h0 : l.length = 0 := by omega
    have HL := Lib.hid (chs_nil_of l h0)
    have H0 := Lib.hid h0
    clear hs hz hat h0
    go_enter Tryz.func55, Tryz.ntmps55
    go_wp2_with fail
    go_ret
    exact ⟨_, rfl, by rw [HL.out, H0.out]; exact World.ownsRow_nil _ _ _ _, Below.refl _ _⟩
  | some ad =>
    have hq := Lib.run_eql_slice_nil (P := Tryz.prog) w 35 75 (some ad) l.length cap 0 0 Tryz.underlying35
    obtain ⟨i0, hi, iz0, iz1, iz2⟩ := info_parts (P := Tryz.prog) change_info
    have hbw : Below w.heap.size w (w.alloc (.cells #[] 75)) := (Below.refl _ _).alloc (Nat.le_refl _) _
    have HN := Lib.hid ((hs.below hbw).news (chs_nil_of l))
    have hown : (w.alloc (.cells #[] 75)).ownsRow w.heap.size 75 2 (.slice (some ⟨w.heap.size, 0, none⟩) 0 0) 0 [] := World.ownsRow_lit w #[] 0 (Nat.le_refl _) (by simp [maxLen]) (by simp)
    have HOWN := Lib.hid hown
    clear hs hz hat hbw hown
    go_enter Tryz.func55, Tryz.ntmps55
    go_wp2_with (at_builtin; refine wpList_append_own _ rfl _ _ 35 rfl w.heap.size 75 i0 (.agg #[.int .i64 0, .string ⟨#[]⟩]) 2 24 Tryz.underlying35 hi iz0 iz1 iz2 rfl (by decide) _ _ _ rfl HOWN.out ad l.length cap (chs l) rfl (by rw [chs_len]; omega) HN.out (chs_one l) (by unfold maxLen; omega) (by omega) (by simp) ?_)
    intro v' w' ho hg _
    have HO := Lib.hid ho
    have HG := Lib.hid hg
    clear ho hg
    go_wp2_with fail
    go_ret
    exact ⟨_, rfl, by have := HO.out; simpa using this, ((Below.refl _ _).alloc (Nat.le_refl _) _).grown HG.out (by simp) (by intro k hk; simp [Value.ownBlock] at hk; omega)⟩
end Go.Proofs.YtimeilkelnljnaaGreatDoor
