import Derived.Test.YtgnkjcdkfcikeaaGreatDoorPw9
namespace Go.Proofs.YtgnkjcdkfcikeaaGreatDoor
open Go.RowKit
set_option linter.unusedSimpArgs false

/-- what a command leaves: the state and the index of the word before the next one -/
def CPost (c : PC) (L : List Dcl) (ws : List Wd) (i : Nat) (s : PS) (w : Wd) (e : Ending) (w' : World) : Prop :=
  ∃ n : Nat, i < n ∧ n ≤ ws.length ∧ (pStep cv (knL cv (L.map Dcl.dc)) s w (ws.drop (i + 1))).2 = ws.drop n ∧ PPost c ((n : Int) - 1) (pStep cv (knL cv (L.map Dcl.dc)) s w (ws.drop (i + 1))).1 e w'
theorem cpost_mk {c : PC} {L : List Dcl} {ws : List Wd} {i : Nat} {s s' : PS} {w : Wd} {n : Nat} {x : Int} (hx : x = (n : Int) - 1) (h1 : i < n) (h2 : n ≤ ws.length) (hs : pStep cv (knL cv (L.map Dcl.dc)) s w (ws.drop (i + 1)) = (s', ws.drop n)) {e : Ending} {w' : World} (h : PPost c x s' e w') : CPost c L ws i s w e w' := by
  refine ⟨n, h1, h2, by rw [hs], ?_⟩
  rw [hs]
  rw [← hx]
  exact h
theorem kw_none {B : Nat} {u : Bs} (h1 : 36 :: u ≠ sDumpvars) (h2 : 36 :: u ≠ sDumpall) (h3 : 36 :: u ≠ sDumpoff) (h4 : 36 :: u ≠ sDumpon) (h5 : 36 :: u ≠ sEnd) : kwF B (36 :: u) = none := by
  unfold kwF
  rw [if_neg h5, if_neg h4, if_neg h3, if_neg h2, if_neg h1]
theorem sec_bounds {ws : List Wd} {i : Nat} (hi : i < ws.length) : i < (secN ws i).1 ∧ (secN ws i).1 ≤ ws.length := by
  unfold secN
  split
  · exact ⟨hi, Nat.le_refl _⟩
  · rename_i r hr
    have := behind_len hr
    simp at this ⊢
    omega
theorem ps_command (c : PC) (L : List Dcl) (ws : List Wd) (i : Nat) (s : PS) (vo vr : Value) (w : Wd) (W : World) (hx : CX c L ws i s vo vr W) (hwi : ws[i]'hx.i = w) (hne : w.1 ≠ []) :
    Calls Tryz.prog 34 #[.pointer (some ⟨c.B, 0, none⟩), .map (some c.kb)] W (CPost c L ws i s w) := by
  obtain ⟨tx, o1, o2, o3⟩ := w
  cases tx with
  | nil => exact absurd rfl hne
  | cons c0 u =>
    have hi := hx.i
    have hn1 : ((i : Int)) = ((i + 1 : Nat) : Int) - 1 := by omega
    have hlt : i < i + 1 := Nat.lt_succ_self i
    by_cases h35 : c0 = 35
    · subst h35
      exact (ps_cmdT c L ws i s vo vr u o1 o2 o3 W hx hwi).mono fun _ _ h => cpost_mk hn1 hlt hi rfl h
    by_cases h36 : c0 = 36
    · subst h36
      by_cases k1 : 36 :: u = sDumpvars
      · unfold sDumpvars at k1
        injection k1 with _ k1
        subst k1
        exact (ps_cmdKV c L ws i s vo vr o1 o2 o3 W hx hwi).mono fun _ _ h => cpost_mk hn1 hlt hi (by first | rfl | (unfold pStep; simp [sDumpvars, sDumpall, sDumpoff, sDumpon, sEnd])) h
      by_cases k2 : 36 :: u = sDumpall
      · unfold sDumpall at k2
        injection k2 with _ k2
        subst k2
        exact (ps_cmdKA c L ws i s vo vr o1 o2 o3 W hx hwi).mono fun _ _ h => cpost_mk hn1 hlt hi (by first | rfl | (unfold pStep; simp [sDumpvars, sDumpall, sDumpoff, sDumpon, sEnd])) h
      by_cases k3 : 36 :: u = sDumpoff
      · unfold sDumpoff at k3
        injection k3 with _ k3
        subst k3
        exact (ps_cmdKF c L ws i s vo vr o1 o2 o3 W hx hwi).mono fun _ _ h => cpost_mk hn1 hlt hi (by first | rfl | (unfold pStep; simp [sDumpvars, sDumpall, sDumpoff, sDumpon, sEnd])) h
      by_cases k4 : 36 :: u = sDumpon
      · unfold sDumpon at k4
        injection k4 with _ k4
        subst k4
        exact (ps_cmdKO c L ws i s vo vr o1 o2 o3 W hx hwi).mono fun _ _ h => cpost_mk hn1 hlt hi (by first | rfl | (unfold pStep; simp [sDumpvars, sDumpall, sDumpoff, sDumpon, sEnd])) h
      by_cases k5 : 36 :: u = sEnd
      · unfold sEnd at k5
        injection k5 with _ k5
        subst k5
        exact (ps_cmdKE c L ws i s vo vr o1 o2 o3 W hx hwi).mono fun _ _ h => cpost_mk hn1 hlt hi (by first | rfl | (unfold pStep; simp [sDumpvars, sDumpall, sDumpoff, sDumpon, sEnd])) h
      refine (ps_cmdX c L ws i s vo vr u o1 o2 o3 W hx hwi (kw_none k1 k2 k3 k4 k5)).mono fun _ _ h => cpost_mk (n := (secN ws i).1) rfl (sec_bounds hi).1 (sec_bounds hi).2 ?_ h
      unfold pStep
      simp only
      rw [if_neg h35, if_pos trivial, if_neg (fun h => h.elim k1 k2), if_neg k3, if_neg k4, if_neg k5]
      exact sect_eq
    by_cases hsc : scalarC c0 = true
    · have hst : pStep cv (knL cv (L.map Dcl.dc)) s (c0 :: u, o1, o2, o3) (ws.drop (i + 1)) = (scalarQ L s (c0 :: u, o1, o2, o3) c0 u, ws.drop (i + 1)) := by
        unfold pStep scalarQ
        simp only
        rw [if_neg h35, if_neg h36, if_pos hsc]
        by_cases hu : u = []
        · rw [if_pos hu, if_pos hu]
        · rw [if_neg hu, if_neg hu, changeQ_eq]
      have hcs : c0 = 48 ∨ c0 = 49 ∨ c0 = 120 ∨ c0 = 122 ∨ c0 = 88 ∨ c0 = 90 := by
        unfold scalarC at hsc
        simpa only [Bool.or_eq_true, beq_iff_eq, or_assoc] using hsc
      rcases hcs with rfl | rfl | rfl | rfl | rfl | rfl
      · exact (ps_cmdS48 c L ws i s vo vr u o1 o2 o3 W hx hwi).mono fun _ _ h => cpost_mk hn1 hlt hi hst h
      · exact (ps_cmdS49 c L ws i s vo vr u o1 o2 o3 W hx hwi).mono fun _ _ h => cpost_mk hn1 hlt hi hst h
      · exact (ps_cmdS120 c L ws i s vo vr u o1 o2 o3 W hx hwi).mono fun _ _ h => cpost_mk hn1 hlt hi hst h
      · exact (ps_cmdS122 c L ws i s vo vr u o1 o2 o3 W hx hwi).mono fun _ _ h => cpost_mk hn1 hlt hi hst h
      · exact (ps_cmdS88 c L ws i s vo vr u o1 o2 o3 W hx hwi).mono fun _ _ h => cpost_mk hn1 hlt hi hst h
      · exact (ps_cmdS90 c L ws i s vo vr u o1 o2 o3 W hx hwi).mono fun _ _ h => cpost_mk hn1 hlt hi hst h
    by_cases hv : c0 = 115 ∨ c0 = 83 ∨ c0 = 114 ∨ c0 = 82 ∨ c0 = 98 ∨ c0 = 66
    · by_cases hend : ws.length ≤ i + 1
      · have hdr : ws.drop (i + 1) = [] := List.drop_eq_nil_of_le hend
        have hst : pStep cv (knL cv (L.map Dcl.dc)) s (c0 :: u, o1, o2, o3) (ws.drop (i + 1)) = (skipP s (c0 :: u, o1, o2, o3), ws.drop (i + 1)) := by
          unfold pStep skipP
          simp only
          rw [if_neg h35, if_neg h36, if_neg hsc, hdr]
          rcases hv with rfl | rfl | rfl | rfl | rfl | rfl <;> rfl
        rcases hv with rfl | rfl | rfl | rfl | rfl | rfl
        · exact (ps_cmdE115 c L ws i s vo vr u o1 o2 o3 W hx hwi hend).mono fun _ _ h => cpost_mk hn1 hlt hi hst h
        · exact (ps_cmdE83 c L ws i s vo vr u o1 o2 o3 W hx hwi hend).mono fun _ _ h => cpost_mk hn1 hlt hi hst h
        · exact (ps_cmdE114 c L ws i s vo vr u o1 o2 o3 W hx hwi hend).mono fun _ _ h => cpost_mk hn1 hlt hi hst h
        · exact (ps_cmdE82 c L ws i s vo vr u o1 o2 o3 W hx hwi hend).mono fun _ _ h => cpost_mk hn1 hlt hi hst h
        · exact (ps_cmdE98 c L ws i s vo vr u o1 o2 o3 W hx hwi hend).mono fun _ _ h => cpost_mk hn1 hlt hi hst h
        · exact (ps_cmdE66 c L ws i s vo vr u o1 o2 o3 W hx hwi hend).mono fun _ _ h => cpost_mk hn1 hlt hi hst h
      · have hl2 : i + 1 < ws.length := by omega
        have hst : ∀ k, vecK c0 = some k → pStep cv (knL cv (L.map Dcl.dc)) s (c0 :: u, o1, o2, o3) (ws.drop (i + 1)) = (changeQ s (c0 :: u, o1, o2, o3) ws[i + 1] (knF L ws[i + 1].1) ws[i + 1].1 u [k], ws.drop (i + 2)) := by
          intro k hk
          unfold pStep
          simp only
          rw [if_neg h35, if_neg h36, if_neg hsc, hk, List.drop_eq_getElem_cons hl2]
          simp only
          rw [changeQ_eq]
        have hn2 : ((i : Int) + 1) = ((i + 2 : Nat) : Int) - 1 := by omega
        rcases hv with rfl | rfl | rfl | rfl | rfl | rfl
        · exact (ps_cmdV115 c L ws i s vo vr u o1 o2 o3 W hx hwi hl2).mono fun _ _ h => cpost_mk hn2 (by omega) (by omega) (hst _ rfl) h
        · exact (ps_cmdV83 c L ws i s vo vr u o1 o2 o3 W hx hwi hl2).mono fun _ _ h => cpost_mk hn2 (by omega) (by omega) (hst _ rfl) h
        · exact (ps_cmdV114 c L ws i s vo vr u o1 o2 o3 W hx hwi hl2).mono fun _ _ h => cpost_mk hn2 (by omega) (by omega) (hst _ rfl) h
        · exact (ps_cmdV82 c L ws i s vo vr u o1 o2 o3 W hx hwi hl2).mono fun _ _ h => cpost_mk hn2 (by omega) (by omega) (hst _ rfl) h
        · exact (ps_cmdV98 c L ws i s vo vr u o1 o2 o3 W hx hwi hl2).mono fun _ _ h => cpost_mk hn2 (by omega) (by omega) (hst _ rfl) h
        · exact (ps_cmdV66 c L ws i s vo vr u o1 o2 o3 W hx hwi hl2).mono fun _ _ h => cpost_mk hn2 (by omega) (by omega) (hst _ rfl) h
    · have hst : pStep cv (knL cv (L.map Dcl.dc)) s (c0 :: u, o1, o2, o3) (ws.drop (i + 1)) = (s.prob 3 (c0 :: u, o1, o2, o3), ws.drop (i + 1)) := by
        unfold pStep
        simp only
        rw [if_neg h35, if_neg h36, if_neg hsc]
        have : vecK c0 = none := by
          unfold vecK
          rw [if_neg (fun h => hv (h.elim (fun e => .inr (.inr (.inr (.inr (.inl e))))) (fun e => .inr (.inr (.inr (.inr (.inr e))))))), if_neg (fun h => hv (h.elim (fun e => .inr (.inr (.inl e))) (fun e => .inr (.inr (.inr (.inl e)))))), if_neg (fun h => hv (h.elim (fun e => .inl e) (fun e => .inr (.inl e))))]
        rw [this]
      have hs6 : c0 ≠ 48 ∧ c0 ≠ 49 ∧ c0 ≠ 120 ∧ c0 ≠ 122 ∧ c0 ≠ 88 ∧ c0 ≠ 90 := by
        refine ⟨?_, ?_, ?_, ?_, ?_, ?_⟩ <;> (rintro rfl; exact hsc rfl)
      exact (ps_cmdD c L ws i s vo vr c0 u o1 o2 o3 W hx hwi ⟨h35, h36, hs6.1, hs6.2.1, hs6.2.2.1, hs6.2.2.2.1, hs6.2.2.2.2.1, hs6.2.2.2.2.2, fun e => hv (.inl e), fun e => hv (.inr (.inl e)), fun e => hv (.inr (.inr (.inl e))), fun e => hv (.inr (.inr (.inr (.inl e)))), fun e => hv (.inr (.inr (.inr (.inr (.inl e))))), fun e => hv (.inr (.inr (.inr (.inr (.inr e)))))⟩).mono fun _ _ h => cpost_mk hn1 hlt hi hst h
end Go.Proofs.YtgnkjcdkfcikeaaGreatDoor
