import Derived.Test.YtlbcfmhpkcpmaaaGreatDoorPl2
namespace Go.Proofs.YtlbcfmhpkcpmaaaGreatDoor
/- Plain laws of Put. No program in sight. -/

theorem lo_mono {s t : Int} (h : s ≤ t) : ∀ (l : List Ch), lo l s ≤ lo l t
  | [] => Nat.le_refl _
  | c :: l => by
    by_cases hc : c.1 < s
    · rw [lo_cons_lt hc, lo_cons_lt (by omega)]
      have := lo_mono h l
      omega
    · rw [lo_cons_ge (by omega)]; omega

theorem put_cases {k n : Int} {l : List Ch} {from_ to_ : Int} {v : ByteArray} : (∃ e, e ≠ 0 ∧ putR k n l from_ to_ v = ((0, 0, []), e)) ∨ (sv k n l = true ∧ k ≠ 3 ∧ 0 ≤ from_ ∧ from_ < to_ ∧ to_ ≤ 1099511627777 ∧ vv k n v = true) := by
  cases h : sv k n l
  · exact .inl ⟨1, by decide, by unfold putR; rw [if_pos h]⟩
  · by_cases hk : k = 3
    · exact .inl ⟨7, by decide, by unfold putR; rw [if_neg (by rw [h]; simp), if_pos hk]⟩
    · by_cases hr : from_ < 0 ∨ to_ ≤ from_ ∨ 1099511627777 < to_
      · exact .inl ⟨2, by decide, by unfold putR; rw [if_neg (by rw [h]; simp), if_neg hk, if_pos hr]⟩
      · cases hv : vv k n v
        · exact .inl ⟨1, by decide, by unfold putR; rw [if_neg (by rw [h]; simp), if_neg hk, if_neg hr, if_pos hv]⟩
        · exact .inr ⟨rfl, hk, by omega, by omega, by omega, rfl⟩

theorem put_ok {k n : Int} {l : List Ch} {from_ to_ : Int} {v : ByteArray} (h : sv k n l = true) (hl : l.length ≤ 1000) (hk : k ≠ 3) (h0 : 0 ≤ from_) (h1 : from_ < to_) (h2 : to_ ≤ 1099511627777) (hv : vv k n v = true) :
    ∃ m, putR k n l from_ to_ v = ((k, n, m), 0) ∧ sv k n m = true ∧ m.length ≤ 2 * l.length + 2 ∧ ∀ t, 0 ≤ t → t ≤ 1099511627776 → val (vi k n) m t = if from_ ≤ t ∧ t < to_ then v else val (vi k n) l t := by
  have hN := sv_Nrm h
  have hmem := sv_mem h
  obtain ⟨s1, s2⟩ := lo_split from_ l 0 hN.2.2.1
  obtain ⟨s3, s4⟩ := lo_split (to_ + 1) l 0 hN.2.2.1
  obtain ⟨sm, hsm⟩ : ∃ sm : List Ch, (if to_ ≤ 1099511627776 then [(to_, valAt k n l to_)] else []) = sm := ⟨_, rfl⟩
  have hL : putL k n l from_ to_ v = l.take (lo l from_) ++ ((from_, v) :: (sm ++ l.drop (lo l (to_ + 1)))) := by
    unfold putL; rw [hsm]; simp [List.append_assoc]
  have hsmn : NonDec to_ (sm ++ l.drop (lo l (to_ + 1))) := by
    rw [← hsm]
    split
    · exact ⟨Int.le_refl _, s4.mono (by omega)⟩
    · exact s4.mono (by omega)
  have hrest : NonDec from_ ((from_, v) :: (sm ++ l.drop (lo l (to_ + 1)))) := ⟨Int.le_refl _, hsmn.mono (by show from_ ≤ to_; omega)⟩
  have hvv : ∀ c ∈ putL k n l from_ to_ v, c.1 ≤ 1099511627776 ∧ vv k n c.2 = true := by
    intro c hc
    rw [hL] at hc
    rcases List.mem_append.1 hc with hc | hc
    · exact (hmem c (List.mem_of_mem_take hc)).2
    · rcases List.mem_cons.1 hc with rfl | hc
      · exact ⟨by show from_ ≤ _; omega, hv⟩
      · rcases List.mem_append.1 hc with hc | hc
        · rw [← hsm] at hc
          split at hc
          · rw [List.mem_singleton] at hc
            subst hc
            exact ⟨by assumption, by show vv k n (valAt k n l to_) = true; rw [valAt_eq h]; exact val_vv h _⟩
          · cases hc
        · exact (hmem c (List.mem_of_mem_drop hc)).2
  have hlen : (putL k n l from_ to_ v).length ≤ 2 * l.length + 2 := by
    rw [hL, List.length_append, List.length_cons, List.length_append, List.length_take, List.length_drop]
    have : sm.length ≤ 1 := by rw [← hsm]; split <;> simp
    omega
  have hN2 : Nrm k n (putL k n l from_ to_ v) := by
    refine ⟨hN.1, by omega, ?_, hvv⟩
    rw [hL]
    exact (take_nonDec hN.2.2.1 _).append (fun c hc => by have := s1 c hc; omega) h0 hrest
  refine ⟨normS k n (putL k n l from_ to_ v), ?_, hN2.sv, ?_, fun t ht0 ht1 => ?_⟩
  · unfold putR
    rw [if_neg (by rw [h]; simp), if_neg hk, if_neg (by omega), if_neg (by rw [hv]; simp), hN2.made]
  · have := normGo_len k (putL k n l from_ to_ v) (vi k n)
    unfold normS; omega
  · rw [hN2.val, hL, val_append]
    by_cases hf : from_ ≤ t
    · rw [val_cons, if_pos hf]
      by_cases hto : t < to_
      · rw [if_pos ⟨hf, hto⟩, val_late hsmn hto]
      · rw [if_neg (by omega)]
        have hsm2 : sm = [(to_, val (vi k n) l to_)] := by rw [← hsm, if_pos (by omega), valAt_eq h]
        rw [hsm2, List.singleton_append, val_cons, if_pos (by show to_ ≤ t; omega)]
        rcases Int.lt_or_le to_ t with h3 | h3
        · have := val_drop (v := vi k n) (f := to_ + 1) (t := t) hN.2.2.1 (by omega)
          rw [show to_ + 1 - 1 = to_ by omega] at this
          exact this
        · have ht : t = to_ := by omega
          rw [ht]
          exact val_late s4 (by omega)
    · rw [if_neg (by omega), val_late hrest (by omega)]
      exact val_take hN.2.2.1 (by omega)

theorem win_const {k n : Int} {l : List Ch} {from_ to_ : Int} (h : sv k n l = true) (hw : (winR k n l (from_ + 1) (to_ - 1)).length = 0) (h2 : to_ ≤ 1099511627777) (v : ByteArray) {t : Int} (h3 : from_ ≤ t) (h4 : t < to_) : val v l t = val v l from_ := by
  have hN := sv_nonDec h
  by_cases hft : to_ - 1 < from_ + 1
  · rw [show t = from_ by omega]
  · unfold winR at hw
    rw [if_neg (by rw [h]; simp), if_neg hft, List.length_drop, List.length_take, show min (to_ - 1) 1099511627776 + 1 = to_ by omega] at hw
    have h5 := lo_le l to_
    have h6 := lo_mono (show from_ + 1 ≤ to_ by omega) l
    have h7 : lo l to_ = lo l (from_ + 1) := by omega
    rw [← val_take hN h4, h7, ← val_take (v := v) hN (show from_ < from_ + 1 by omega)]
    exact val_all _ (fun c hc => by have := (lo_split (from_ + 1) l 0 hN).1 c hc; omega) h3

theorem put_back {k n : Int} {l m : List Ch} {from_ to_ : Int} {v : ByteArray} (h : sv k n l = true) (hl : l.length ≤ 400) (hk : k ≠ 3) (h0 : 0 ≤ from_) (h1 : from_ < to_) (h2 : to_ ≤ 1099511627777) (hv : vv k n v = true)
    (hm : putR k n l from_ to_ v = ((k, n, m), 0)) (hsm : sv k n m = true) (hml : m.length ≤ 1000) (hw : (winR k n l (from_ + 1) (to_ - 1)).length = 0) : putR k n m from_ to_ (val (vi k n) l from_) = ((k, n, l), 0) := by
  obtain ⟨m', e1, -, -, e4⟩ := put_ok h (by omega) hk h0 h1 h2 hv
  have hmm : m' = m := by
    rw [hm] at e1
    exact ((Prod.mk.inj (Prod.mk.inj (Prod.mk.inj e1).1).2).2).symm
  subst hmm
  obtain ⟨l', f1, f2, -, f4⟩ := put_ok hsm hml hk h0 h1 h2 (val_vv h from_)
  rw [f1]
  have : l' = l := sv_unique hk f2 h (fun t ht0 ht1 => by
    rw [f4 t ht0 ht1]
    split
    · rename_i hc
      exact (win_const h hw h2 _ hc.1 hc.2).symm
    · rename_i hc
      rw [e4 t ht0 ht1, if_neg hc])
  rw [this]
end Go.Proofs.YtlbcfmhpkcpmaaaGreatDoor
