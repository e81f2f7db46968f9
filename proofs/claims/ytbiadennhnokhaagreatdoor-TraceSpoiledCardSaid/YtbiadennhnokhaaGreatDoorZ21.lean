import Derived.Test.YtbiadennhnokhaaGreatDoorZ13
namespace Go.Proofs.YtbiadennhnokhaaGreatDoor
/- Plain laws of signals: parts of a signal, the values that signals hold. No program in sight. -/

theorem lo_split (t : Int) : ∀ (l : List Ch) (a : Int), NonDec a l → (∀ c ∈ l.take (lo l t), c.1 < t) ∧ NonDec t (l.drop (lo l t))
  | [], _, _ => ⟨fun c h => by simp [lo] at h, trivial⟩
  | c :: l, a, ⟨h1, h2⟩ => by
    by_cases hc : c.1 < t
    · rw [lo_cons_lt hc, List.take_succ_cons, List.drop_succ_cons]
      obtain ⟨h3, h4⟩ := lo_split t l c.1 h2
      refine ⟨fun d hd => ?_, h4⟩
      rcases List.mem_cons.1 hd with rfl | hd
      · exact hc
      · exact h3 d hd
    · rw [lo_cons_ge (by omega)]
      exact ⟨fun d hd => by simp at hd, ⟨by omega, h2⟩⟩
theorem val_take {a t f : Int} {l : List Ch} {v : ByteArray} (h : NonDec a l) (ht : t < f) : val v (l.take (lo l f)) t = val v l t := by
  have h1 := (lo_split f l a h).2
  conv => rhs; rw [← List.take_append_drop (lo l f) l, val_append]
  rw [val_late h1 ht]
theorem val_drop {a t f : Int} {l : List Ch} {v : ByteArray} (h : NonDec a l) (ht : f ≤ t) : val (val v l (f - 1)) (l.drop (lo l f)) t = val v l t := by
  obtain ⟨h0, h1⟩ := lo_split f l a h
  have e : val v l (f - 1) = val v (l.take (lo l f)) t := by
    rw [← val_take h (show f - 1 < f by omega)]
    exact (val_all v (fun c hc => by have := h0 c hc; omega) (by omega)).symm
  rw [e, ← val_append, List.take_append_drop]
theorem take_nonDec {a : Int} {l : List Ch} (h : NonDec a l) (i : Nat) : NonDec a (l.take i) := h.sub (List.take_sublist i l)
theorem drop_mem {P : Ch → Prop} {l : List Ch} (h : ∀ c ∈ l, P c) (i : Nat) : ∀ c ∈ l.drop i, P c := fun c hc => h c (List.mem_of_mem_drop hc)
theorem take_mem {P : Ch → Prop} {l : List Ch} (h : ∀ c ∈ l, P c) (i : Nat) : ∀ c ∈ l.take i, P c := fun c hc => h c (List.mem_of_mem_take hc)

/-- the values that signals hold -/
theorem vv_vt {k n : Int} {s : ByteArray} (h : vv k n s = true) : vt k n = true := by
  unfold vv at h
  exact (Bool.and_eq_true _ _ ▸ h).1
theorem vv_vi {k n : Int} (h : vt k n = true) : vv k n (vi k n) = true := by
  have hv := h
  unfold vt at hv
  unfold vv vi
  rw [if_pos h, h, Bool.true_and]
  by_cases h0 : k = 0
  · subst h0
    have h1 : 1 ≤ n ∧ n ≤ 128 := by simpa using hv
    obtain ⟨j, rfl⟩ := Int.eq_ofNat_of_zero_le (show 0 ≤ n by omega)
    have hc : codeOf 120 = 2 := by decide
    have hr : allR (j : Int) 120 = ⟨(List.replicate j 120).toArray⟩ := by unfold allR; rw [if_neg (by rw [hc]; omega), Int.toNat_natCast]
    rw [if_pos rfl, if_pos rfl, hr]
    have hs : (⟨(List.replicate j (120 : UInt8)).toArray⟩ : ByteArray).size = j := by simp [ByteArray.size]
    have hb : bvIs ⟨(List.replicate j (120 : UInt8)).toArray⟩ = true := by
      unfold bvIs
      rw [hs]
      simp only [Bool.and_eq_true, decide_eq_true_iff, List.all_eq_true]
      refine ⟨⟨by omega, by omega⟩, fun c hcm => ?_⟩
      have : c = 120 := by
        have : c ∈ List.replicate j (120 : UInt8) := by simpa using hcm
        exact (List.mem_replicate.1 this).2
      rw [this, hc]; decide
    rw [hb, hs]; simp
  · rw [if_neg h0, if_neg h0]
    by_cases h1 : k = 1
    · subst h1
      rw [if_pos rfl, if_pos rfl]
      decide +kernel
    · rw [if_neg h1, if_neg h1]
      split
      · decide
      · decide
theorem val_vv {k n : Int} {l : List Ch} (h : sv k n l = true) (t : Int) : vv k n (val (vi k n) l t) = true :=
  val_mem (fun s => vv k n s = true) (vv_vi (sv_iff.1 h).1) (fun c hc => (sv_mem h c hc).2.2)
theorem vv_size {k n : Int} {s : ByteArray} (h : vv k n s = true) : s.size ≤ 1000 := by
  unfold vv at h
  have h := (Bool.and_eq_true _ _ ▸ h).2
  split at h
  · unfold bvIs at h
    simp only [Bool.and_eq_true, decide_eq_true_iff] at h
    omega
  · split at h
    · unfold decOk scanS at h
      by_cases hs : 64 < s.size
      · rw [if_pos hs] at h; cases h
      · omega
    · split at h
      · have := of_decide_eq_true h; omega
      · unfold nilB at h; have := of_decide_eq_true h; omega
theorem sv_fit {k n : Int} {l : List Ch} (h : sv k n l = true) : Fit l := ⟨by have := (sv_iff.1 h).2.1; omega, fun c hc => by have := vv_size (sv_mem h c hc).2.2; omega⟩
end Go.Proofs.YtbiadennhnokhaaGreatDoor
/- Plain: gaps are joined, signals are x in gaps: the values of what is built of a trace. -/
namespace Go.Proofs.YtbiadennhnokhaaGreatDoor

theorem nz_ok {k n : Int} {l : List Ch} (h : (normalizeR k n l).2 = 0) : normalizeR k n l = ((k, n, normS k n l), 0) ∧ vt k n = true ∧ NonDec 0 l ∧ (∀ c ∈ l, c.1 ≤ 1099511627776 ∧ vv k n c.2 = true) ∧ (normS k n l).length ≤ 4096 := by
  unfold normalizeR at h ⊢
  split at h
  · simp at h
  · rename_i h1
    split at h
    · rename_i h2; exact absurd h h2
    · rename_i h2
      have h3 : nzGo k n 0 l = 0 := by simpa using h2
      obtain ⟨h4, h5⟩ := nzGo_zero.1 h3
      unfold madeR at h ⊢
      split at h
      · simp at h
      · rename_i h6
        rw [if_neg h1, if_neg h2, if_neg h6]
        exact ⟨rfl, by simpa using h1, h4, h5, by omega⟩
theorem nz_of {k n : Int} {l : List Ch} (h1 : vt k n = true) (h2 : NonDec 0 l) (h3 : ∀ c ∈ l, c.1 ≤ 1099511627776 ∧ vv k n c.2 = true) (h4 : (normS k n l).length ≤ 4096) : normalizeR k n l = ((k, n, normS k n l), 0) := by
  unfold normalizeR madeR
  rw [if_neg (by simp [h1]), if_neg (by rw [nzGo_zero.2 ⟨h2, h3⟩]; simp), if_neg (by omega)]
theorem nz_sv {k n : Int} {l : List Ch} (h : (normalizeR k n l).2 = 0) : sv k n (normS k n l) = true := by
  obtain ⟨-, h1, h2, h3, h4⟩ := nz_ok h
  exact sv_iff.2 ⟨h1, h4, svGo_normGo k n l _ _ h2 h3⟩
theorem nz_id {k n : Int} {l : List Ch} (h : sv k n l = true) : normalizeR k n l = ((k, n, l), 0) := by
  have := sv_Nrm h
  rw [nz_of this.1 this.2.2.1 this.2.2.2 (by rw [sv_norm h]; exact this.2.1), sv_norm h]

/-! gaps -/
def GapsOk : Int → List Gp → Prop
  | _, [] => True
  | b, g :: t => b ≤ g.1 ∧ g.1 < g.2 ∧ GapsOk (g.2 + 1) t
def endG : Int → List Gp → Int
  | b, [] => b
  | _, g :: t => endG (g.2 + 1) t
def inP (P : List Gp) (t : Int) : Bool := P.any fun g => decide (g.1 ≤ t) && decide (t < g.2)
theorem GapsOk.mono {a b : Int} (h : b ≤ a) : ∀ {P : List Gp}, GapsOk a P → GapsOk b P
  | [], _ => trivial
  | _ :: _, ⟨h1, h2, h3⟩ => ⟨by omega, h2, h3⟩
theorem GapsOk.app {Q : List Gp} : ∀ {P : List Gp} {b : Int}, GapsOk b (P ++ Q) ↔ GapsOk b P ∧ GapsOk (endG b P) Q
  | [], _ => ⟨fun h => ⟨trivial, h⟩, fun h => h.2⟩
  | _ :: _, _ => ⟨fun ⟨h1, h2, h3⟩ => ⟨⟨h1, h2, (GapsOk.app.1 h3).1⟩, (GapsOk.app.1 h3).2⟩, fun ⟨⟨h1, h2, h3⟩, h4⟩ => ⟨h1, h2, GapsOk.app.2 ⟨h3, h4⟩⟩⟩
theorem endG_snoc (h : Gp) : ∀ (P : List Gp) (b : Int), endG b (P ++ [h]) = h.2 + 1
  | [], _ => rfl
  | _ :: t, _ => endG_snoc h t _
theorem GapsOk.mem : ∀ {P : List Gp} {b : Int}, GapsOk b P → ∀ g ∈ P, b ≤ g.1 ∧ g.1 < g.2
  | [], _, _, g, h => by cases h
  | k :: t, b, ⟨h1, h2, h3⟩, g, h => by
    rcases List.mem_cons.1 h with rfl | h
    · exact ⟨h1, h2⟩
    · have := GapsOk.mem h3 g h; exact ⟨by omega, this.2⟩
theorem addGap_nil (g : Gp) : addGap [] g = [g] := rfl
theorem addGap_snoc (A : List Gp) (h g : Gp) : addGap (A ++ [h]) g = if g.1 ≤ h.2 then A ++ [(h.1, max h.2 g.2)] else A ++ [h] ++ [g] := by
  unfold addGap
  simp
theorem snoc_or {α : Type} (l : List α) : l = [] ∨ ∃ A h, l = A ++ [h] := by
  rcases List.eq_nil_or_concat l with h | ⟨A, h, e⟩
  · exact .inl h
  · exact .inr ⟨A, h, by simpa using e⟩
/-- what has been joined so far, of gaps that began at b at last -/
structure Accd (b : Int) (acc : List Gp) : Prop where
  ok : GapsOk 0 acc
  low : ∀ g ∈ acc, g.1 ≤ b
  most : ∀ g ∈ acc, g.2 ≤ 1099511627777
theorem Accd.add {b : Int} {acc : List Gp} (h : Accd b acc) {g : Gp} (h1 : b ≤ g.1) (h0 : 0 ≤ g.1) (h2 : g.1 < g.2) (h3 : g.2 ≤ 1099511627777) : Accd g.1 (addGap acc g) ∧ ∀ t, inP (addGap acc g) t = (inP acc t || (decide (g.1 ≤ t) && decide (t < g.2))) := by
  rcases snoc_or acc with rfl | ⟨A, k, rfl⟩
  · rw [addGap_nil]
    refine ⟨⟨⟨h0, h2, trivial⟩, fun x hx => ?_, fun x hx => ?_⟩, fun t => ?_⟩
    · rw [List.mem_singleton] at hx; subst hx; omega
    · rw [List.mem_singleton] at hx; subst hx; omega
    · simp [inP]
  · obtain ⟨ho, hl, hm⟩ := h
    obtain ⟨ho1, ho2, ho3, -⟩ := GapsOk.app.1 ho
    have hk1 := hl k (by simp)
    have hk2 := hm k (by simp)
    rw [addGap_snoc]
    split
    · rename_i hc
      refine ⟨⟨GapsOk.app.2 ⟨ho1, ho2, by show k.1 < max k.2 g.2; omega, trivial⟩, fun x hx => ?_, fun x hx => ?_⟩, fun t => ?_⟩
      · rcases List.mem_append.1 hx with hx | hx
        · have := hl x (List.mem_append_left _ hx); omega
        · rw [List.mem_singleton] at hx; subst hx; show k.1 ≤ g.1; omega
      · rcases List.mem_append.1 hx with hx | hx
        · exact hm x (List.mem_append_left _ hx)
        · rw [List.mem_singleton] at hx; subst hx; show max k.2 g.2 ≤ _; omega
      · unfold inP
        rw [List.any_append, List.any_append]
        simp only [List.any_cons, List.any_nil, Bool.or_false, Bool.or_assoc]
        congr 1
        rw [Bool.eq_iff_iff]
        simp only [Bool.and_eq_true, Bool.or_eq_true, decide_eq_true_iff]
        omega
    · rename_i hc
      refine ⟨⟨GapsOk.app.2 ⟨ho, by rw [endG_snoc]; omega, h2, trivial⟩, fun x hx => ?_, fun x hx => ?_⟩, fun t => ?_⟩
      · rcases List.mem_append.1 hx with hx | hx
        · have := hl x hx; omega
        · rw [List.mem_singleton] at hx; subst hx; omega
      · rcases List.mem_append.1 hx with hx | hx
        · exact hm x hx
        · rw [List.mem_singleton] at hx; subst hx; omega
      · unfold inP
        rw [List.any_append]
        simp
theorem addGap_end {acc : List Gp} {g : Gp} {en : Int} (h : ∀ x ∈ acc, x.2 - 1 ≤ en) : ∀ x ∈ addGap acc g, x.2 - 1 ≤ max en (g.2 - 1) := by
  intro x hx
  rcases snoc_or acc with rfl | ⟨A, k, rfl⟩
  · rw [addGap_nil, List.mem_singleton] at hx; subst hx; omega
  · have hk := h k (by simp)
    rw [addGap_snoc] at hx
    split at hx
    · rcases List.mem_append.1 hx with hx | hx
      · have := h x (List.mem_append_left _ hx); omega
      · rw [List.mem_singleton] at hx; subst hx; show max k.2 g.2 - 1 ≤ _; omega
    · rcases List.mem_append.1 hx with hx | hx
      · have := h x hx; omega
      · rw [List.mem_singleton] at hx; subst hx; omega
theorem gapsGo_cons (b : Int) (acc : List Gp) (en : Int) (g : Gp) (t : List Gp) : gapsGo b acc en (g :: t) = if g.1 < b ∨ g.1 < 0 ∨ g.2 ≤ g.1 ∨ 1099511627777 < g.2 then none else gapsGo g.1 (addGap acc g) (max en (g.2 - 1)) t := rfl
theorem gapsGo_ok : ∀ (l : List Gp) (b : Int) (acc : List Gp) (en : Int) (P : List Gp) (en' : Int), gapsGo b acc en l = some (P, en') → Accd b acc → (∀ x ∈ acc, x.2 - 1 ≤ en) →
    (∃ c, Accd c P) ∧ (∀ x ∈ P, x.2 - 1 ≤ en') ∧ en ≤ en' ∧ (en' = en ∨ en' ≤ 1099511627776) ∧ ∀ t, inP P t = (inP acc t || inP l t)
  | [], b, acc, en, P, en', h, ha, he => by
    injection h with h
    injection h with h1 h2
    subst h1 h2
    exact ⟨⟨b, ha⟩, he, Int.le_refl _, .inl rfl, fun t => by simp [inP]⟩
  | g :: t, b, acc, en, P, en', h, ha, he => by
    rw [gapsGo_cons] at h
    split at h
    · cases h
    · rename_i hc
      obtain ⟨ha1, ha2⟩ := ha.add (g := g) (by omega) (by omega) (by omega) (by omega)
      obtain ⟨q1, q2, q3, q4, q5⟩ := gapsGo_ok t _ _ _ _ _ h ha1 (addGap_end he)
      refine ⟨q1, q2, by omega, by omega, fun u => ?_⟩
      rw [q5, ha2, Bool.or_assoc]
      rfl
theorem gapsGo_id : ∀ (l : List Gp) (b : Int) (acc : List Gp) (en : Int), 0 ≤ b → GapsOk b l → (∀ x ∈ acc, x.2 < b) → (∀ x ∈ l, x.2 - 1 ≤ en ∧ x.2 ≤ 1099511627777) → ∀ a, a ≤ b → gapsGo a acc en l = some (acc ++ l, en)
  | [], b, acc, en, _, _, _, _, a, _ => by simp [gapsGo]
  | g :: t, b, acc, en, hb, ⟨h1, h2, h3⟩, ha, he, a, hab => by
    have hg := he g (by simp)
    rw [gapsGo_cons, if_neg (by omega)]
    have e : addGap acc g = acc ++ [g] := by
      rcases snoc_or acc with rfl | ⟨A, k, rfl⟩
      · rfl
      · have := ha k (by simp)
        rw [addGap_snoc, if_neg (by omega)]
    rw [e, show max en (g.2 - 1) = en by omega, gapsGo_id t (g.2 + 1) (acc ++ [g]) en (by omega) h3 (fun x hx => ?_) (fun x hx => he x (List.mem_cons_of_mem _ hx)) g.1 (by omega)]
    · simp
    · rcases List.mem_append.1 hx with hx | hx
      · have := ha x hx; omega
      · rw [List.mem_singleton] at hx; subst hx; omega

/-! a signal that is x in gaps -/
def inG (en : Int) (P : List Gp) (t : Int) : Bool := P.any fun g => decide (g.1 ≤ t) && decide (t < gapTo en g)
theorem inG_le {en t : Int} {P : List Gp} (h : t ≤ en) (he : en ≤ 1099511627776) : inG en P t = inP P t := by
  unfold inG inP gapTo
  congr 1
  funext g
  split
  · rw [show decide (t < 1099511627777) = true by simp; omega, show decide (t < g.2) = true by simp; omega]
  · rfl
theorem nd_take {a u : Int} {cs : List Ch} (h : NonDec a cs) : NonDec a (cs.takeWhile fun c => decide (c.1 < u)) := h.sub (List.takeWhile_sublist _)
theorem nd_drop {a : Int} {p : Ch → Bool} : ∀ {cs : List Ch}, NonDec a cs → NonDec a (cs.dropWhile p) := fun h => h.sub (List.dropWhile_sublist _)
theorem nd_dropLt {a u : Int} : ∀ {cs : List Ch}, NonDec a cs → NonDec u (cs.dropWhile fun c => decide (c.1 < u))
  | [], _ => trivial
  | c :: cs, h => by
    rw [List.dropWhile_cons]
    split
    · exact nd_dropLt h.2
    · rename_i hc; exact ⟨by simpa using hc, h.2⟩
theorem nd_dropLe {a u : Int} : ∀ {cs : List Ch}, NonDec a cs → NonDec (u + 1) (cs.dropWhile fun c => decide (c.1 ≤ u))
  | [], _ => trivial
  | c :: cs, h => by
    rw [List.dropWhile_cons]
    split
    · exact nd_dropLe h.2
    · rename_i hc
      have : ¬ c.1 ≤ u := by simpa using hc
      exact ⟨by omega, h.2⟩
theorem take_lt {u : Int} {cs : List Ch} : ∀ c ∈ cs.takeWhile (fun c => decide (c.1 < u)), c.1 < u := fun c hc => by
  have := List.all_eq_true.1 List.all_takeWhile c hc
  simpa using this
theorem take_le {u : Int} {cs : List Ch} : ∀ c ∈ cs.takeWhile (fun c => decide (c.1 ≤ u)), c.1 ≤ u := fun c hc => by
  have := List.all_eq_true.1 List.all_takeWhile c hc
  simpa using this
theorem mem_take {p : Ch → Bool} {cs : List Ch} {c : Ch} (h : c ∈ cs.takeWhile p) : c ∈ cs := (List.takeWhile_sublist _).subset h
theorem mem_drop {p : Ch → Bool} {cs : List Ch} {c : Ch} (h : c ∈ cs.dropWhile p) : c ∈ cs := (List.dropWhile_sublist _).subset h
theorem val_early {v : ByteArray} {t u : Int} {cs : List Ch} {a : Int} (h : NonDec a cs) (ht : t < u) : val v (cs.takeWhile fun c => decide (c.1 < u)) t = val v cs t := by
  have e : cs = cs.takeWhile (fun c => decide (c.1 < u)) ++ cs.dropWhile (fun c => decide (c.1 < u)) := by rw [List.takeWhile_append_dropWhile]
  conv => rhs; rw [e]
  rw [val_append, val_late (nd_dropLt h) ht]
theorem val_after {v : ByteArray} {t u w : Int} {cs : List Ch} {a : Int} (h : NonDec a cs) (hu : w ≤ u) (ht : u ≤ t) : val (val v cs u) (((cs.dropWhile fun c => decide (c.1 < w))).dropWhile fun c => decide (c.1 ≤ u)) t = val v cs t := by
  have e : cs = cs.takeWhile (fun c => decide (c.1 < w)) ++ cs.dropWhile (fun c => decide (c.1 < w)) := by rw [List.takeWhile_append_dropWhile]
  generalize hA : cs.takeWhile (fun c => decide (c.1 < w)) = A at e
  have hA1 : ∀ c ∈ A, c.1 < w := by subst hA; exact take_lt
  have hnd := nd_drop (p := fun c => decide (c.1 < w)) h
  generalize cs.dropWhile (fun c => decide (c.1 < w)) = B at e hnd ⊢
  have e2 : B = B.takeWhile (fun c => decide (c.1 ≤ u)) ++ B.dropWhile (fun c => decide (c.1 ≤ u)) := by rw [List.takeWhile_append_dropWhile]
  have hnd2 := nd_dropLe (u := u) hnd
  generalize hC : B.takeWhile (fun c => decide (c.1 ≤ u)) = C at e2
  have hC1 : ∀ c ∈ C, c.1 ≤ u := by subst hC; exact take_le
  generalize B.dropWhile (fun c => decide (c.1 ≤ u)) = D at e2 hnd2 ⊢
  subst e2 e
  have e1 : val v (A ++ (C ++ D)) u = val v (A ++ C) u := by rw [← List.append_assoc, val_append, val_late hnd2 (by omega)]
  have e2 : val v (A ++ C) t = val v (A ++ C) u := val_all _ (fun c hc => by
    rcases List.mem_append.1 hc with hc | hc
    · have := hA1 c hc; omega
    · exact hC1 c hc) ht
  rw [e1, ← e2, ← List.append_assoc, ← val_append]

theorem offL_cons (x : ByteArray) (at_ : Int → ByteArray) (en : Int) (g : Gp) (P : List Gp) (cs : List Ch) : offL x at_ en (g :: P) cs = cs.takeWhile (fun c => decide (c.1 < g.1)) ++ ((g.1, x) :: ((if gapTo en g ≤ 1099511627776 then [(gapTo en g, at_ (gapTo en g))] else []) ++
      offL x at_ en P ((cs.dropWhile fun c => decide (c.1 < g.1)).dropWhile fun c => decide (c.1 ≤ gapTo en g)))) := rfl
theorem gapTo_gt {en : Int} {g : Gp} (h : g.1 < g.2) (h2 : g.2 ≤ 1099511627777) : g.1 < gapTo en g ∧ g.2 ≤ gapTo en g := by unfold gapTo; split <;> omega
theorem nd_pair {a : Int} {c : Ch} {l : List Ch} (h1 : a ≤ c.1) (h2 : NonDec c.1 l) : NonDec a (c :: l) := ⟨h1, h2⟩
theorem offL_nd (x : ByteArray) (at_ : Int → ByteArray) (en : Int) (hen : en ≤ 1099511627776) : ∀ (P : List Gp) (cs : List Ch) (a b : Int), a ≤ b → GapsOk b P → (∀ g ∈ P, g.2 ≤ 1099511627777 ∧ g.2 - 1 ≤ en) → NonDec a cs → NonDec a (offL x at_ en P cs)
  | [], cs, a, b, _, _, _, h => h
  | g :: P, cs, a, b, hab, ⟨h1, h2, h3⟩, hm, h => by
    have hg := hm g (by simp)
    obtain ⟨hg1, hg2⟩ := gapTo_gt (en := en) h2 hg.1
    rw [offL_cons]
    refine NonDec.append (b := g.1) (nd_take h) (fun c hc => by have := take_lt c hc; omega) (by omega) ⟨Int.le_refl _, ?_⟩
    have hr : NonDec (gapTo en g) (offL x at_ en P ((cs.dropWhile fun c => decide (c.1 < g.1)).dropWhile fun c => decide (c.1 ≤ gapTo en g))) := by
      rcases (show gapTo en g = g.2 ∨ (gapTo en g = 1099511627777 ∧ g.2 = en + 1) by unfold gapTo; split <;> omega) with e | ⟨e1, e2⟩
      · exact offL_nd x at_ en hen P _ (gapTo en g) (g.2 + 1) (by omega) h3 (fun k hk => hm k (List.mem_cons_of_mem _ hk)) ((nd_dropLe (nd_drop h)).mono (by omega))
      · cases P with
        | nil => exact (nd_dropLe (nd_drop h)).mono (by omega)
        | cons k P =>
          have hk := hm k (by simp)
          have := h3.1
          have := h3.2.1
          omega
    split
    · exact ⟨by show g.1 ≤ gapTo en g; omega, hr⟩
    · exact hr.mono (by omega)
theorem offL_mem (x : ByteArray) (at_ : Int → ByteArray) (en : Int) (hen : en ≤ 1099511627776) : ∀ (P : List Gp) (cs : List Ch) (c : Ch), c ∈ offL x at_ en P cs → c ∈ cs ∨ (∃ g ∈ P, c = (g.1, x)) ∨ ∃ g ∈ P, c = (gapTo en g, at_ (gapTo en g)) ∧ gapTo en g ≤ 1099511627776
  | [], _, _, h => .inl h
  | g :: P, cs, c, h => by
    rw [offL_cons] at h
    rcases List.mem_append.1 h with h | h
    · exact .inl (mem_take h)
    rcases List.mem_cons.1 h with h | h
    · exact .inr (.inl ⟨g, by simp, h⟩)
    rcases List.mem_append.1 h with h | h
    · split at h
      · rename_i h6
        rw [List.mem_singleton] at h
        exact .inr (.inr ⟨g, by simp, h, h6⟩)
      · cases h
    · rcases offL_mem x at_ en hen P _ c h with h | ⟨k, hk, e⟩ | ⟨k, hk, e⟩
      · exact .inl (mem_drop (mem_drop h))
      · exact .inr (.inl ⟨k, List.mem_cons_of_mem _ hk, e⟩)
      · exact .inr (.inr ⟨k, List.mem_cons_of_mem _ hk, e⟩)
theorem inG_cons (en : Int) (g : Gp) (P : List Gp) (t : Int) : inG en (g :: P) t = ((decide (g.1 ≤ t) && decide (t < gapTo en g)) || inG en P t) := rfl
theorem inG_none {en t b : Int} (h : t < b) : ∀ {P : List Gp}, GapsOk b P → inG en P t = false := fun {P} hP => by
  unfold inG
  rw [List.any_eq_false]
  intro g hg
  have := hP.mem g hg
  simp; omega
/-- the values of a signal that is x in the gaps -/
theorem offL_val (x : ByteArray) (at_ : Int → ByteArray) (en : Int) (hen : en ≤ 1099511627776) (t : Int) (ht : t ≤ 1099511627776) : ∀ (P : List Gp) (cs : List Ch) (v : ByteArray) (a b : Int), a ≤ b → GapsOk b P → (∀ g ∈ P, g.2 ≤ 1099511627777 ∧ g.2 - 1 ≤ en) → NonDec a cs →
    (∀ g ∈ P, gapTo en g ≤ 1099511627776 → at_ (gapTo en g) = val v cs (gapTo en g)) → val v (offL x at_ en P cs) t = if inG en P t = true then x else val v cs t
  | [], _, _, _, _, _, _, _, _, _ => rfl
  | g :: P, cs, v, a, b, hab, ⟨h1, h2, h3⟩, hm, h, hat => by
    have hg := hm g (by simp)
    obtain ⟨hg1, hg2⟩ := gapTo_gt (en := en) h2 hg.1
    have hP : gapTo en g = g.2 ∨ (gapTo en g = 1099511627777 ∧ P = []) := by
      rcases (show gapTo en g = g.2 ∨ (gapTo en g = 1099511627777 ∧ g.2 = en + 1) by unfold gapTo; split <;> omega) with e | ⟨e1, e2⟩
      · exact .inl e
      · cases P with
        | nil => exact .inr ⟨e1, rfl⟩
        | cons k P =>
          have hk := hm k (by simp)
          have := h3.1
          have := h3.2.1
          omega
    have hC : NonDec (gapTo en g) ((cs.dropWhile fun c => decide (c.1 < g.1)).dropWhile fun c => decide (c.1 ≤ gapTo en g)) := (nd_dropLe (nd_drop h)).mono (by omega)
    have hr : NonDec (gapTo en g) (offL x at_ en P ((cs.dropWhile fun c => decide (c.1 < g.1)).dropWhile fun c => decide (c.1 ≤ gapTo en g))) := by
      rcases hP with e | ⟨e1, rfl⟩
      · exact offL_nd x at_ en hen P _ (gapTo en g) (g.2 + 1) (by omega) h3 (fun k hk => hm k (List.mem_cons_of_mem _ hk)) hC
      · exact hC
    rw [offL_cons, val_append, inG_cons]
    have hmid : NonDec (gapTo en g) ((if gapTo en g ≤ 1099511627776 then [(gapTo en g, at_ (gapTo en g))] else []) ++ offL x at_ en P ((cs.dropWhile fun c => decide (c.1 < g.1)).dropWhile fun c => decide (c.1 ≤ gapTo en g))) := by
      split
      · exact ⟨Int.le_refl _, hr⟩
      · exact hr
    by_cases q1 : t < g.1
    · rw [val_late (a := g.1) (nd_pair (c := (g.1, x)) (Int.le_refl _) (hmid.mono (show (g.1, x).1 ≤ gapTo en g by show g.1 ≤ gapTo en g; omega))) q1, val_early h q1, show decide (g.1 ≤ t) = false by simp; omega, Bool.false_and, Bool.false_or, inG_none (b := g.2 + 1) (by omega) h3]
      rfl
    · rw [val_cons, if_pos (show (g.1, x).1 ≤ t by show g.1 ≤ t; omega)]
      by_cases q2 : t < gapTo en g
      · rw [val_late hmid q2, show decide (g.1 ≤ t) = true by simp; omega, show decide (t < gapTo en g) = true by simp; omega]
        rfl
      · have e : gapTo en g = g.2 := by rcases hP with e | ⟨e1, -⟩ <;> omega
        rw [if_pos (by omega), List.cons_append, List.nil_append, val_cons, if_pos (show (gapTo en g, at_ (gapTo en g)).1 ≤ t by show gapTo en g ≤ t; omega), hat g (by simp) (by omega), show decide (t < gapTo en g) = false by simp; omega, Bool.and_false, Bool.false_or]
        rw [offL_val x at_ en hen t ht P _ (val v cs (gapTo en g)) (gapTo en g) (g.2 + 1) (by omega) h3 (fun k hk => hm k (List.mem_cons_of_mem _ hk)) hC ?_]
        · rw [val_after h (by omega) (by omega)]
        · intro k hk hk6
          have hk0 := hm k (List.mem_cons_of_mem _ hk)
          have hk1 := h3.mem k hk
          have hk2 := (gapTo_gt (en := en) hk1.2 hk0.1).1
          rw [hat k (List.mem_cons_of_mem _ hk) hk6, val_after h (by omega) (by omega)]
end Go.Proofs.YtbiadennhnokhaaGreatDoor
