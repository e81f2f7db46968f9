import Derived.Test.YtlbcfmhpkcpmaaaGreatDoorPl3
namespace Go.Proofs.YtlbcfmhpkcpmaaaGreatDoor
/- Plain laws of Splice. No program in sight. -/

theorem splice_cases {k n k2 n2 : Int} {l m : List Ch} {t : Int} : (∃ e, e ≠ 0 ∧ spliceR k n l k2 n2 m t = ((0, 0, []), e)) ∨ (sv k n l = true ∧ sv k2 n2 m = true ∧ k2 = k ∧ n2 = n ∧ 0 ≤ t ∧ t ≤ 1099511627777) := by
  by_cases h : sv k n l = false ∨ sv k2 n2 m = false
  · exact .inl ⟨1, by decide, by unfold spliceR; rw [if_pos h]⟩
  · by_cases hk : k ≠ k2 ∨ n ≠ n2
    · exact .inl ⟨7, by decide, by unfold spliceR; rw [if_neg h, if_pos hk]⟩
    · by_cases hr : t < 0 ∨ 1099511627777 < t
      · exact .inl ⟨2, by decide, by unfold spliceR; rw [if_neg h, if_neg hk, if_pos hr]⟩
      · exact .inr ⟨by cases hs : sv k n l with | true => rfl | false => exact absurd (.inl hs) h, by cases hs : sv k2 n2 m with | true => rfl | false => exact absurd (.inr hs) h, by omega, by omega, by omega, by omega⟩

theorem hasT_append (l m : List Ch) (t : Int) : hasT (l ++ m) t = (hasT l t || hasT m t) := by unfold hasT; rw [List.any_append]
theorem hasT_early {l : List Ch} {t x : Int} (h : ∀ c ∈ l, c.1 < t) (hx : t ≤ x) : hasT l x = false := by
  unfold hasT
  rw [List.any_eq_false]
  intro c hc
  have := h c hc
  simp; omega

theorem splice_ok {k n : Int} {l m : List Ch} {t : Int} (h : sv k n l = true) (hm : sv k n m = true) (hl : l.length ≤ 1000) (hml : m.length ≤ 1000) (h0 : 0 ≤ t) (h1 : t ≤ 1099511627777) :
    ∃ s, spliceR k n l k n m t = ((k, n, s), 0) ∧ sv k n s = true ∧ s.length ≤ l.length + m.length + 1 ∧ (∀ x, 0 ≤ x → x ≤ 1099511627776 → val (vi k n) s x = if x < t then val (vi k n) l x else val (vi k n) m x) ∧
      (k = 3 → ∀ x, hasT s x = if x < t then hasT l x else hasT m x) := by
  have hN := sv_Nrm h
  have hNm := sv_Nrm hm
  have hmem := sv_mem h
  have hmm := sv_mem hm
  obtain ⟨s1, s2⟩ := lo_split t l 0 hN.2.2.1
  obtain ⟨s3, s4⟩ := lo_split t m 0 hNm.2.2.1
  obtain ⟨sm, hsm⟩ : ∃ sm : List Ch, (if spC k m t = true then [(t, valAt k n m t)] else []) = sm := ⟨_, rfl⟩
  have hL : spL k n l m t = l.take (lo l t) ++ (sm ++ m.drop (lo m t)) := by unfold spL; rw [hsm, List.append_assoc]
  have hspc : spC k m t = true → k ≠ 3 ∧ t ≤ 1099511627776 ∧ NonDec (t + 1) (m.drop (lo m t)) := by
    intro hs
    unfold spC at hs
    rw [Bool.and_eq_true, Bool.and_eq_true, decide_eq_true_iff, decide_eq_true_iff] at hs
    refine ⟨hs.1, hs.2.1, ?_⟩
    have h3 := hs.2.2
    cases hd : m.drop (lo m t) with
    | nil => trivial
    | cons c r =>
      have hc : m[lo m t]? = some c := by rw [← List.head?_drop, hd]; rfl
      rw [hc] at h3
      have := of_decide_eq_true h3
      rw [hd] at s4
      exact ⟨by omega, s4.2⟩
  have hsmn : NonDec t (sm ++ m.drop (lo m t)) := by
    rw [← hsm]
    split
    · exact ⟨Int.le_refl _, s4⟩
    · exact s4
  have hvv : ∀ c ∈ spL k n l m t, c.1 ≤ 1099511627776 ∧ vv k n c.2 = true := by
    intro c hc
    rw [hL] at hc
    rcases List.mem_append.1 hc with hc | hc
    · exact (hmem c (List.mem_of_mem_take hc)).2
    · rcases List.mem_append.1 hc with hc | hc
      · rw [← hsm] at hc
        split at hc
        · rename_i hs
          rw [List.mem_singleton] at hc
          subst hc
          exact ⟨(hspc hs).2.1, by show vv k n (valAt k n m t) = true; rw [valAt_eq hm]; exact val_vv hm _⟩
        · cases hc
      · exact (hmm c (List.mem_of_mem_drop hc)).2
  have hlen : (spL k n l m t).length ≤ l.length + m.length + 1 := by
    rw [hL, List.length_append, List.length_append, List.length_take, List.length_drop]
    have : sm.length ≤ 1 := by rw [← hsm]; split <;> simp
    omega
  have hN2 : Nrm k n (spL k n l m t) := by
    refine ⟨hN.1, by omega, ?_, hvv⟩
    rw [hL]
    exact (take_nonDec hN.2.2.1 _).append (fun c hc => by have := s1 c hc; omega) h0 hsmn
  refine ⟨normS k n (spL k n l m t), ?_, hN2.sv, ?_, fun x hx0 hx1 => ?_, fun hk x => ?_⟩
  · unfold spliceR
    rw [if_neg (by rw [h, hm]; simp), if_neg (by simp), if_neg (by omega), hN2.made]
  · have := normGo_len k (spL k n l m t) (vi k n)
    unfold normS; omega
  · rw [hN2.val, hL, val_append]
    by_cases hx : x < t
    · rw [if_pos hx, val_late hsmn hx]
      exact val_take hN.2.2.1 hx
    · rw [if_neg hx]
      have hxt : t ≤ x := by omega
      have hd := val_drop (v := vi k n) (f := t) (t := x) hNm.2.2.1 hxt
      by_cases hs : spC k m t = true
      · obtain ⟨hk, ht, hnd⟩ := hspc hs
        rw [← hsm, if_pos hs, List.singleton_append, val_cons, if_pos (show t ≤ x by omega)]
        show val (valAt k n m t) _ _ = _
        have e2 : val (vi k n) m t = val (vi k n) m (t - 1) := by
          have := val_drop (v := vi k n) (f := t) (t := t) hNm.2.2.1 (Int.le_refl _)
          rw [← this]
          exact val_late hnd (by omega)
        rw [valAt_eq hm, e2]
        exact hd
      · rw [← hsm, if_neg hs, List.nil_append]
        by_cases hk : k = 3
        · subst hk
          have e1 : ∀ v, v = (⟨#[]⟩ : ByteArray) → val v (m.drop (lo m t)) x = ⟨#[]⟩ := fun v hv => val_mem (fun s => s = ⟨#[]⟩) hv (fun c hc => vv3 (hmm c (List.mem_of_mem_drop hc)).2.2)
          rw [e1 _ (val_mem (fun s => s = ⟨#[]⟩) vi3 (fun c hc => vv3 (hmem c (List.mem_of_mem_take hc)).2.2)), val3 hm]
        · -- a change stands at t
          have htm : t ≤ 1099511627776 := by omega
          cases hdr : m.drop (lo m t) with
          | nil =>
            exfalso
            apply hs
            unfold spC
            have : m[lo m t]? = none := by rw [← List.head?_drop, hdr]; rfl
            rw [this]
            simp [hk, htm]
          | cons c r =>
            have hc : m[lo m t]? = some c := by rw [← List.head?_drop, hdr]; rfl
            have hct : ¬ t < c.1 := by
              intro hlt
              apply hs
              unfold spC
              rw [hc]
              simp [hk, htm, hlt]
            rw [hdr] at hd
            rw [val_cons, if_pos (by omega)]
            rw [val_cons, if_pos (by omega)] at hd
            exact hd
  · subst hk
    have e1 : hasT (normS 3 n (spL 3 n l m t)) x = hasT (spL 3 n l m t) x := hasT_norm3 (n := n) _ _
    have e2 : sm = [] := by rw [← hsm, if_neg (fun hs => (hspc hs).1 rfl)]
    rw [e1, hL, e2, List.nil_append, hasT_append]
    have el : hasT l x = (hasT (l.take (lo l t)) x || hasT (l.drop (lo l t)) x) := by rw [← hasT_append, List.take_append_drop]
    have em : hasT m x = (hasT (m.take (lo m t)) x || hasT (m.drop (lo m t)) x) := by rw [← hasT_append, List.take_append_drop]
    by_cases hx : x < t
    · rw [if_pos hx, el, hasT_late s2 hx, hasT_late s4 hx]
    · rw [if_neg hx, em, hasT_early s1 (by omega), hasT_early s3 (by omega)]

theorem splice_self {k n : Int} {l : List Ch} {t : Int} (h : sv k n l = true) (hl : l.length ≤ 1000) (h0 : 0 ≤ t) (h1 : t ≤ 1099511627777) : spliceR k n l k n l t = ((k, n, l), 0) := by
  obtain ⟨s, e1, e2, -, e4, -⟩ := splice_ok h h hl hl h0 h1
  by_cases hk : k = 3
  · subst hk
    have hL : spL 3 n l l t = l := by
      have : spC 3 l t = false := by simp [spC]
      unfold spL
      rw [this]
      simp
    unfold spliceR
    rw [if_neg (by rw [h]; simp), if_neg (by simp), if_neg (by omega), hL, (sv_Nrm h).made, sv_norm h]
  · rw [e1]
    have : s = l := sv_unique hk e2 h (fun x hx0 hx1 => by rw [e4 x hx0 hx1]; split <;> rfl)
    rw [this]
end Go.Proofs.YtlbcfmhpkcpmaaaGreatDoor
