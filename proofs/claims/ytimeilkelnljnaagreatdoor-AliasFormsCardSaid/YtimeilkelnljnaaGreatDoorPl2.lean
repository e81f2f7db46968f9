import Derived.Test.YtimeilkelnljnaaGreatDoorPl1
import Derived.Test.YtimeilkelnljnaaGreatDoorSig12
import Derived.Test.YtimeilkelnljnaaGreatDoorSig16
namespace Go.Proofs.YtimeilkelnljnaaGreatDoor
/- Plain laws of Put, Splice, Shift, Slice, Invert. No program in sight. -/

theorem lo_split (t : Int) : ∀ (l : List Ch) (a : Int), NonDec a l → (∀ c ∈ l.take (lo l t), c.1 < t) ∧ NonDec t (l.drop (lo l t))
  | [], _, _ => ⟨fun c h => by simp [lo] at h, trivial⟩
  | c :: l, a, ⟨h1, h2⟩ => by
    by_cases hc : c.1 < t
    · rw [lo_cons_lt hc, List.take_succ_cons, List.drop_succ_cons]
      obtain ⟨h3, h4⟩ := lo_split t l c.1 h2
      refine ⟨fun d hd => ?_, h4⟩
      rcases List.mem_cons.1 hd with rfl | hd
      · exact hc
      · exact h3 d hd
    · rw [lo_cons_ge (by omega)]
      exact ⟨fun d hd => by simp at hd, ⟨by omega, h2⟩⟩
theorem val_take {a t f : Int} {l : List Ch} {v : ByteArray} (h : NonDec a l) (ht : t < f) : val v (l.take (lo l f)) t = val v l t := by
  have h1 := (lo_split f l a h).2
  conv => rhs; rw [← List.take_append_drop (lo l f) l, val_append]
  rw [val_late h1 ht]
theorem val_drop {a t f : Int} {l : List Ch} {v : ByteArray} (h : NonDec a l) (ht : f ≤ t) : val (val v l (f - 1)) (l.drop (lo l f)) t = val v l t := by
  obtain ⟨h0, h1⟩ := lo_split f l a h
  have e : val v l (f - 1) = val v (l.take (lo l f)) t := by
    rw [← val_take h (show f - 1 < f by omega)]
    exact (val_all v (fun c hc => by have := h0 c hc; omega) (by omega)).symm
  rw [e, ← val_append, List.take_append_drop]
theorem take_nonDec {a : Int} {l : List Ch} (h : NonDec a l) (i : Nat) : NonDec a (l.take i) := h.sub (List.take_sublist i l)
theorem drop_mem {P : Ch → Prop} {l : List Ch} (h : ∀ c ∈ l, P c) (i : Nat) : ∀ c ∈ l.drop i, P c := fun c hc => h c (List.mem_of_mem_drop hc)
theorem take_mem {P : Ch → Prop} {l : List Ch} (h : ∀ c ∈ l, P c) (i : Nat) : ∀ c ∈ l.take i, P c := fun c hc => h c (List.mem_of_mem_take hc)

/-- the values that signals hold -/
theorem vv_vt {k n : Int} {s : ByteArray} (h : vv k n s = true) : vt k n = true := by
  unfold vv at h
  exact (Bool.and_eq_true _ _ ▸ h).1
theorem vv_vi {k n : Int} (h : vt k n = true) : vv k n (vi k n) = true := by
  have hv := h
  unfold vt at hv
  unfold vv vi
  rw [if_pos h, h, Bool.true_and]
  by_cases h0 : k = 0
  · subst h0
    have h1 : 1 ≤ n ∧ n ≤ 128 := by simpa using hv
    obtain ⟨j, rfl⟩ := Int.eq_ofNat_of_zero_le (show 0 ≤ n by omega)
    have hc : codeOf 120 = 2 := by decide
    have hr : allR (j : Int) 120 = ⟨(List.replicate j 120).toArray⟩ := by unfold allR; rw [if_neg (by rw [hc]; omega), Int.toNat_natCast]
    rw [if_pos rfl, if_pos rfl, hr]
    have hs : (⟨(List.replicate j (120 : UInt8)).toArray⟩ : ByteArray).size = j := by simp [ByteArray.size]
    have hb : bvIs ⟨(List.replicate j (120 : UInt8)).toArray⟩ = true := by
      unfold bvIs
      rw [hs]
      simp only [Bool.and_eq_true, decide_eq_true_iff, List.all_eq_true]
      refine ⟨⟨by omega, by omega⟩, fun c hcm => ?_⟩
      have : c = 120 := by
        have : c ∈ List.replicate j (120 : UInt8) := by simpa using hcm
        exact (List.mem_replicate.1 this).2
      rw [this, hc]; decide
    rw [hb, hs]; simp
  · rw [if_neg h0, if_neg h0]
    by_cases h1 : k = 1
    · subst h1
      rw [if_pos rfl, if_pos rfl]
      decide +kernel
    · rw [if_neg h1, if_neg h1]
      split
      · decide
      · decide
theorem val_vv {k n : Int} {l : List Ch} (h : sv k n l = true) (t : Int) : vv k n (val (vi k n) l t) = true :=
  val_mem (fun s => vv k n s = true) (vv_vi (sv_iff.1 h).1) (fun c hc => (sv_mem h c hc).2.2)
theorem vv_size {k n : Int} {s : ByteArray} (h : vv k n s = true) : s.size ≤ 1000 := by
  unfold vv at h
  have h := (Bool.and_eq_true _ _ ▸ h).2
  split at h
  · unfold bvIs at h
    simp only [Bool.and_eq_true, decide_eq_true_iff] at h
    omega
  · split at h
    · unfold decOk scanS at h
      by_cases hs : 64 < s.size
      · rw [if_pos hs] at h; cases h
      · omega
    · split at h
      · have := of_decide_eq_true h; omega
      · unfold nilB at h; have := of_decide_eq_true h; omega
theorem sv_fit {k n : Int} {l : List Ch} (h : sv k n l = true) : Fit l := ⟨by have := (sv_iff.1 h).2.1; omega, fun c hc => by have := vv_size (sv_mem h c hc).2.2; omega⟩

/-! Shift -/
def shC (by_ : Int) (c : Ch) : Ch := (c.1 + by_, c.2)
theorem eachL_shift {by_ : Int} : ∀ {l : List Ch}, (∀ c ∈ l, 0 ≤ c.1 + by_) → eachL (shG by_) l = l.map (shC by_)
  | [], _ => rfl
  | c :: l, h => by
    have ih := eachL_shift (l := l) (fun d hd => h d (List.mem_cons_of_mem _ hd))
    have hc := h c List.mem_cons_self
    unfold eachL at ih ⊢
    rw [List.filterMap_cons, List.map_cons, ih]
    simp [shG, shC, hc]
theorem eachL_shift_mem {by_ : Int} {l : List Ch} : ∀ c ∈ eachL (shG by_) l, 0 ≤ c.1 ∧ ∃ d ∈ l, c = shC by_ d := by
  intro c hc
  unfold eachL at hc
  obtain ⟨d, hd, he⟩ := List.mem_filterMap.1 hc
  split at he
  · rename_i h
    have h2 : 0 ≤ d.1 + by_ := by simpa [shG] using h
    have := Option.some.inj he
    subst this
    exact ⟨h2, d, hd, rfl⟩
  · cases he
theorem eachL_shift_nonDec {by_ : Int} : ∀ {l : List Ch} {a : Int}, NonDec a l → NonDec (a + by_) (eachL (shG by_) l)
  | [], _, _ => trivial
  | c :: l, a, ⟨h1, h2⟩ => by
    have ih := eachL_shift_nonDec (by_ := by_) h2
    unfold eachL at ih ⊢
    rw [List.filterMap_cons]
    by_cases hc : 0 ≤ c.1 + by_
    · simp only [shG, hc, decide_true, if_true]
      exact ⟨by show a + by_ ≤ c.1 + by_; omega, ih⟩
    · simp only [shG, hc, decide_false, Bool.false_eq_true, if_false]
      exact ih.mono (by omega)
theorem map_nonDec {by_ : Int} : ∀ {l : List Ch} {a : Int}, NonDec a l → NonDec (a + by_) (l.map (shC by_))
  | [], _, _ => trivial
  | c :: l, a, ⟨h1, h2⟩ => ⟨by show a + by_ ≤ c.1 + by_; omega, map_nonDec h2⟩
theorem val_map_shift {by_ t : Int} : ∀ (l : List Ch) (v : ByteArray), val v (l.map (shC by_)) t = val v l (t - by_)
  | [], _ => rfl
  | c :: l, v => by
    rw [List.map_cons, val_cons, val_cons, val_map_shift l]
    congr 1
    by_cases h : c.1 ≤ t - by_
    · rw [if_pos h, if_pos (by show c.1 + by_ ≤ t; omega)]; rfl
    · rw [if_neg h, if_neg (by show ¬ c.1 + by_ ≤ t; omega)]
theorem last_max : ∀ {l : List Ch} {a : Int}, NonDec a l → ∀ d, l.getLast? = some d → ∀ c ∈ l, c.1 ≤ d.1
  | [], _, _, d, h, c, hc => by cases hc
  | [e], _, _, d, h, c, hc => by
    rw [List.getLast?_singleton] at h
    obtain rfl := Option.some.inj h
    rw [List.mem_singleton.1 hc]; exact Int.le_refl _
  | e :: f :: l, a, ⟨h1, h2⟩, d, h, c, hc => by
    rw [List.getLast?_cons_cons] at h
    have ih := last_max h2 d h
    rcases List.mem_cons.1 hc with rfl | hc
    · exact Int.le_trans h2.1 (ih f List.mem_cons_self)
    · exact ih c hc
theorem shBad_mem {l : List Ch} {by_ : Int} (hn : NonDec 0 l) (h : shBad l by_ = false) : ∀ c ∈ l, c.1 + by_ ≤ 1099511627776 := by
  intro c hc
  unfold shBad at h
  cases hl : l.getLast? with
  | none => rw [List.getLast?_eq_none_iff.1 hl] at hc; cases hc
  | some d =>
    rw [hl] at h
    have := of_decide_eq_false h
    have := last_max hn d hl c hc
    omega
theorem shBad_of {l : List Ch} {by_ : Int} (h : ∀ c ∈ l, c.1 + by_ ≤ 1099511627776) : shBad l by_ = false := by
  unfold shBad
  cases hl : l.getLast? with
  | none => rfl
  | some d =>
    have := h d (List.mem_of_getLast? hl)
    simp; omega
theorem svGo_shift {k n by_ : Int} : ∀ {l : List Ch} {a a' : Int} {v : ByteArray}, svGo k n a v l = true → a' ≤ a + by_ → (∀ c ∈ l, c.1 + by_ ≤ 1099511627776) → svGo k n a' v (l.map (shC by_)) = true
  | [], _, _, _, _, _, _ => rfl
  | c :: l, a, a', v, h, ha, hm => by
    obtain ⟨h1, h2, h3, h4, h5⟩ := (svGo_cons ..).1 h
    rw [List.map_cons]
    refine (svGo_cons ..).2 ⟨by show a' < c.1 + by_; omega, hm c List.mem_cons_self, h3, h4, svGo_shift h5 (by show c.1 + by_ ≤ _; omega) (fun d hd => hm d (List.mem_cons_of_mem _ hd))⟩
theorem val3 {n : Int} {l : List Ch} (h : sv 3 n l = true) (t : Int) : val (vi 3 n) l t = ⟨#[]⟩ :=
  val_mem (fun s => s = ⟨#[]⟩) vi3 (fun c hc => vv3 (sv_mem h c hc).2.2)

/-- a shifted signal -/
theorem shift_ok {k n : Int} {l : List Ch} {by_ : Int} (h : sv k n l = true) (hl : l.length ≤ 4000) (h0 : -1099511627776 ≤ by_) (h1 : by_ ≤ 1099511627776) (hb : shBad l by_ = false) :
    ∃ m, shiftR k n l by_ = ((k, n, m), 0) ∧ sv k n m = true ∧ m.length ≤ l.length + 1 ∧ (∀ t, 0 ≤ t → t ≤ 1099511627776 → val (vi k n) m t = if by_ ≤ t then val (vi k n) l (min (t - by_) 1099511627776) else vi k n) ∧ (0 ≤ by_ → m = l.map (shC by_)) := by
  have hN := sv_Nrm h
  have hmx := shBad_mem hN.2.2.1 hb
  have hmem := sv_mem h
  have hR : shiftR k n l by_ = if 0 ≤ by_ ∨ k = 3 then madeR k n (eachL (shG by_) l) else madeR k n (shTail k n l by_) := by
    unfold shiftR
    rw [if_neg (by rw [h]; simp), if_neg (by rw [hb]; simp; omega)]
  by_cases hd : 0 ≤ by_ ∨ k = 3
  · have hN1 : Nrm k n (eachL (shG by_) l) := by
      refine ⟨hN.1, by have := eachL_len (shG by_) l; omega, ?_, fun c hc => ?_⟩
      · have h2 := eachL_shift_nonDec (by_ := by_) hN.2.2.1
        have h3 := fun c hc => (eachL_shift_mem (by_ := by_) (l := l) c hc).1
        revert h2 h3
        generalize eachL (shG by_) l = L
        intro h2 h3
        cases L with
        | nil => trivial
        | cons c L => exact ⟨h3 c List.mem_cons_self, h2.2⟩
      · obtain ⟨-, d, hd, rfl⟩ := eachL_shift_mem c hc
        exact ⟨hmx d hd, (hmem d hd).2.2⟩
    refine ⟨normS k n (eachL (shG by_) l), by rw [hR, if_pos hd, hN1.made], hN1.sv, ?_, fun t ht0 ht1 => ?_, fun hby => ?_⟩
    · have := normGo_len k (eachL (shG by_) l) (vi k n)
      have := eachL_len (shG by_) l
      unfold normS; omega
    · by_cases hk : k = 3
      · subst hk
        rw [val3 hN1.sv, val3 h, vi3]; simp
      · have hby : 0 ≤ by_ := by omega
        rw [hN1.val, eachL_shift (fun c hc => by have := hmem c hc; omega), val_map_shift]
        split
        · rw [show min (t - by_) 1099511627776 = t - by_ by omega]
        · exact val_late hN.2.2.1 (by omega)
    · have he := eachL_shift (by_ := by_) (l := l) (fun c hc => by have := hmem c hc; omega)
      rw [he]
      have hsv2 : sv k n (l.map (shC by_)) = true := sv_iff.2 ⟨hN.1, by simp; omega, svGo_shift (sv_iff.1 h).2.2 (by omega) hmx⟩
      exact sv_norm hsv2
  · have hk : k ≠ 3 := fun e => hd (.inr e)
    have hby : by_ < 0 := by omega
    have hsp := lo_split (-by_ + 1) l 0 hN.2.2.1
    have hT : shTail k n l by_ = (0, val (vi k n) l (-by_)) :: (l.drop (lo l (-by_ + 1))).map (shC by_) := by
      unfold shTail; rw [valAt_eq h]; rfl
    have hN2 : Nrm k n (shTail k n l by_) := by
      rw [hT]
      refine ⟨hN.1, by simp; omega, ⟨Int.le_refl _, ?_⟩, fun c hc => ?_⟩
      · exact (map_nonDec (by_ := by_) hsp.2).mono (by omega)
      · rcases List.mem_cons.1 hc with rfl | hc
        · exact ⟨by show (0 : Int) ≤ 1099511627776; decide, val_vv h _⟩
        · obtain ⟨d, hd, rfl⟩ := List.mem_map.1 hc
          have := List.mem_of_mem_drop hd
          exact ⟨hmx d this, (hmem d this).2.2⟩
    refine ⟨normS k n (shTail k n l by_), by rw [hR, if_neg hd, hN2.made], hN2.sv, ?_, fun t ht0 ht1 => ?_, fun h => absurd h (by omega)⟩
    · have h1 := normGo_len k (shTail k n l by_) (vi k n)
      have h2 : (shTail k n l by_).length ≤ l.length + 1 := by rw [hT]; simp
      unfold normS; omega
    · rw [hN2.val, hT, val_cons, if_pos ht0, val_map_shift, if_pos (by omega)]
      have hmin : val (vi k n) l (t - by_) = val (vi k n) l (min (t - by_) 1099511627776) := by
        by_cases hle : t - by_ ≤ 1099511627776
        · rw [show min (t - by_) 1099511627776 = t - by_ by omega]
        · rw [show min (t - by_) 1099511627776 = 1099511627776 by omega]
          exact val_all _ (fun c hc => (hmem c hc).2.1) (by omega)
      rw [← hmin]
      rcases Int.lt_or_le 0 t with h3 | h3
      · have := val_drop (v := vi k n) (f := -by_ + 1) (t := t - by_) hN.2.2.1 (by omega)
        rw [show -by_ + 1 - 1 = -by_ by omega] at this
        exact this
      · have ht : t = 0 := by omega
        subst ht
        rw [show (0 : Int) - by_ = -by_ by omega]
        exact val_late hsp.2 (by omega)
theorem shift_cases {k n : Int} {l : List Ch} {by_ : Int} : (∃ e, e ≠ 0 ∧ shiftR k n l by_ = ((0, 0, []), e)) ∨ (sv k n l = true ∧ -1099511627776 ≤ by_ ∧ by_ ≤ 1099511627776 ∧ shBad l by_ = false) := by
  cases h : sv k n l
  · exact .inl ⟨1, by decide, by unfold shiftR; rw [if_pos h]⟩
  · by_cases hb : by_ < -1099511627776 ∨ 1099511627776 < by_ ∨ shBad l by_ = true
    · exact .inl ⟨2, by decide, by unfold shiftR; rw [if_neg (by rw [h]; simp), if_pos hb]⟩
    · exact .inr ⟨rfl, by omega, by omega, by cases hs : shBad l by_ with | false => rfl | true => exact absurd (.inr (.inr hs)) hb⟩
/-- shifting back -/
theorem shift_back {k n : Int} {l m : List Ch} {by_ : Int} (h : sv k n l = true) (hl : l.length ≤ 3000) (h0 : 0 ≤ by_) (h1 : by_ ≤ 1099511627776) (hb : shBad l by_ = false) (hm : shiftR k n l by_ = ((k, n, m), 0)) (hsm : sv k n m = true) :
    shiftR k n m (-by_) = ((k, n, l), 0) := by
  obtain ⟨m', e1, -, e3, e4, e5⟩ := shift_ok h (by omega) (by omega) h1 hb
  have hmm : m' = m := by
    rw [hm] at e1
    exact ((Prod.mk.inj (Prod.mk.inj (Prod.mk.inj e1).1).2).2).symm
  subst hmm
  have hml := e5 h0
  have hmx := shBad_mem (sv_Nrm h).2.2.1 hb
  have hbad : shBad m' (-by_) = false := shBad_of (fun c hc => by
    rw [hml] at hc
    obtain ⟨d, hd, rfl⟩ := List.mem_map.1 hc
    have := (sv_mem h d hd).2.1
    show d.1 + by_ + -by_ ≤ _
    omega)
  obtain ⟨l', f1, f2, f3, f4, f5⟩ := shift_ok hsm (by omega) (by_ := -by_) (by omega) (by omega) hbad
  rw [f1]
  by_cases hk : k = 3
  · have hR : shiftR k n m' (-by_) = madeR k n (eachL (shG (-by_)) m') := by
      unfold shiftR
      rw [if_neg (by rw [hsm]; simp), if_neg (by rw [hbad]; simp; omega), if_pos (.inr hk)]
    have he : eachL (shG (-by_)) m' = l := by
      rw [eachL_shift (fun c hc => by
        rw [hml] at hc
        obtain ⟨d, hd, rfl⟩ := List.mem_map.1 hc
        have := (sv_mem h d hd).1
        show 0 ≤ d.1 + by_ + -by_
        omega), hml, List.map_map]
      conv => rhs; rw [← List.map_id l]
      apply List.map_congr_left
      intro c _
      show ((c.1 + by_ + -by_, c.2) : Ch) = c
      rw [show c.1 + by_ + -by_ = c.1 by omega]
    rw [he, (sv_Nrm h).made, sv_norm h] at hR
    rw [hR] at f1
    rw [f1]
  · have : l' = l := sv_unique hk f2 h (fun t ht0 ht1 => by
      rw [f4 t ht0 ht1, if_pos (by omega), e4 _ (by omega) (by omega), if_pos (by omega)]
      by_cases hc : t + by_ ≤ 1099511627776
      · rw [show min (min (t - -by_) 1099511627776 - by_) 1099511627776 = t by omega]
      · rw [show min (min (t - -by_) 1099511627776 - by_) 1099511627776 = 1099511627776 - by_ by omega]
        exact (val_all _ (fun c hc => by have := hmx c hc; omega) (by omega)).symm)
    rw [this]
end Go.Proofs.YtimeilkelnljnaaGreatDoor
