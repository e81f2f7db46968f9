import Derived.Test.YtbiadennhnokhaaGreatDoorZ13
import Derived.Test.YtbiadennhnokhaaGreatDoorZ19
/- Plain: gaps are joined, signals are x in gaps: the values of what is built of a trace. -/
namespace Go.Proofs.YtbiadennhnokhaaGreatDoor

theorem nz_ok {k n : Int} {l : List Ch} (h : (normalizeR k n l).2 = 0) : normalizeR k n l = ((k, n, normS k n l), 0) ∧ vt k n = true ∧ NonDec 0 l ∧ (∀ c ∈ l, c.1 ≤ 1099511627776 ∧ vv k n c.2 = true) ∧ (normS k n l).length ≤ 4096 := by
  unfold normalizeR at h ⊢
  split at h
  · simp at h
  · rename_i h1
    split at h
    · rename_i h2; exact absurd h h2
    · rename_i h2
      have h3 : nzGo k n 0 l = 0 := by simpa using h2
      obtain ⟨h4, h5⟩ := nzGo_zero.1 h3
      unfold madeR at h ⊢
      split at h
      · simp at h
      · rename_i h6
        rw [if_neg h1, if_neg h2, if_neg h6]
        exact ⟨rfl, by simpa using h1, h4, h5, by omega⟩
theorem nz_of {k n : Int} {l : List Ch} (h1 : vt k n = true) (h2 : NonDec 0 l) (h3 : ∀ c ∈ l, c.1 ≤ 1099511627776 ∧ vv k n c.2 = true) (h4 : (normS k n l).length ≤ 4096) : normalizeR k n l = ((k, n, normS k n l), 0) := by
  unfold normalizeR madeR
  rw [if_neg (by simp [h1]), if_neg (by rw [nzGo_zero.2 ⟨h2, h3⟩]; simp), if_neg (by omega)]
theorem nz_sv {k n : Int} {l : List Ch} (h : (normalizeR k n l).2 = 0) : sv k n (normS k n l) = true := by
  obtain ⟨-, h1, h2, h3, h4⟩ := nz_ok h
  exact sv_iff.2 ⟨h1, h4, svGo_normGo k n l _ _ h2 h3⟩
theorem nz_id {k n : Int} {l : List Ch} (h : sv k n l = true) : normalizeR k n l = ((k, n, l), 0) := by
  have := sv_Nrm h
  rw [nz_of this.1 this.2.2.1 this.2.2.2 (by rw [sv_norm h]; exact this.2.1), sv_norm h]

/-! gaps -/
def GapsOk : Int → List Gp → Prop
  | _, [] => True
  | b, g :: t => b ≤ g.1 ∧ g.1 < g.2 ∧ GapsOk (g.2 + 1) t
def endG : Int → List Gp → Int
  | b, [] => b
  | _, g :: t => endG (g.2 + 1) t
def inP (P : List Gp) (t : Int) : Bool := P.any fun g => decide (g.1 ≤ t) && decide (t < g.2)
theorem GapsOk.mono {a b : Int} (h : b ≤ a) : ∀ {P : List Gp}, GapsOk a P → GapsOk b P
  | [], _ => trivial
  | _ :: _, ⟨h1, h2, h3⟩ => ⟨by omega, h2, h3⟩
theorem GapsOk.app {Q : List Gp} : ∀ {P : List Gp} {b : Int}, GapsOk b (P ++ Q) ↔ GapsOk b P ∧ GapsOk (endG b P) Q
  | [], _ => ⟨fun h => ⟨trivial, h⟩, fun h => h.2⟩
  | _ :: _, _ => ⟨fun ⟨h1, h2, h3⟩ => ⟨⟨h1, h2, (GapsOk.app.1 h3).1⟩, (GapsOk.app.1 h3).2⟩, fun ⟨⟨h1, h2, h3⟩, h4⟩ => ⟨h1, h2, GapsOk.app.2 ⟨h3, h4⟩⟩⟩
theorem endG_snoc (h : Gp) : ∀ (P : List Gp) (b : Int), endG b (P ++ [h]) = h.2 + 1
  | [], _ => rfl
  | _ :: t, _ => endG_snoc h t _
theorem GapsOk.mem : ∀ {P : List Gp} {b : Int}, GapsOk b P → ∀ g ∈ P, b ≤ g.1 ∧ g.1 < g.2
  | [], _, _, g, h => by cases h
  | k :: t, b, ⟨h1, h2, h3⟩, g, h => by
    rcases List.mem_cons.1 h with rfl | h
    · exact ⟨h1, h2⟩
    · have := GapsOk.mem h3 g h; exact ⟨by omega, this.2⟩
theorem addGap_nil (g : Gp) : addGap [] g = [g] := rfl
theorem addGap_snoc (A : List Gp) (h g : Gp) : addGap (A ++ [h]) g = if g.1 ≤ h.2 then A ++ [(h.1, max h.2 g.2)] else A ++ [h] ++ [g] := by
  unfold addGap
  simp
theorem snoc_or {α : Type} (l : List α) : l = [] ∨ ∃ A h, l = A ++ [h] := by
  rcases List.eq_nil_or_concat l with h | ⟨A, h, e⟩
  · exact .inl h
  · exact .inr ⟨A, h, by simpa using e⟩
/-- what has been joined so far, of gaps that began at b at last -/
structure Accd (b : Int) (acc : List Gp) : Prop where
  ok : GapsOk 0 acc
  low : ∀ g ∈ acc, g.1 ≤ b
  most : ∀ g ∈ acc, g.2 ≤ 1099511627777
theorem Accd.add {b : Int} {acc : List Gp} (h : Accd b acc) {g : Gp} (h1 : b ≤ g.1) (h0 : 0 ≤ g.1) (h2 : g.1 < g.2) (h3 : g.2 ≤ 1099511627777) : Accd g.1 (addGap acc g) ∧ ∀ t, inP (addGap acc g) t = (inP acc t || (decide (g.1 ≤ t) && decide (t < g.2))) := by
  rcases snoc_or acc with rfl | ⟨A, k, rfl⟩
  · rw [addGap_nil]
    refine ⟨⟨⟨h0, h2, trivial⟩, fun x hx => ?_, fun x hx => ?_⟩, fun t => ?_⟩
    · rw [List.mem_singleton] at hx; subst hx; omega
    · rw [List.mem_singleton] at hx; subst hx; omega
    · simp [inP]
  · obtain ⟨ho, hl, hm⟩ := h
    obtain ⟨ho1, ho2, ho3, -⟩ := GapsOk.app.1 ho
    have hk1 := hl k (by simp)
    have hk2 := hm k (by simp)
    rw [addGap_snoc]
    split
    · rename_i hc
      refine ⟨⟨GapsOk.app.2 ⟨ho1, ho2, by show k.1 < max k.2 g.2; omega, trivial⟩, fun x hx => ?_, fun x hx => ?_⟩, fun t => ?_⟩
      · rcases List.mem_append.1 hx with hx | hx
        · have := hl x (List.mem_append_left _ hx); omega
        · rw [List.mem_singleton] at hx; subst hx; show k.1 ≤ g.1; omega
      · rcases List.mem_append.1 hx with hx | hx
        · exact hm x (List.mem_append_left _ hx)
        · rw [List.mem_singleton] at hx; subst hx; show max k.2 g.2 ≤ _; omega
      · unfold inP
        rw [List.any_append, List.any_append]
        simp only [List.any_cons, List.any_nil, Bool.or_false, Bool.or_assoc]
        congr 1
        rw [Bool.eq_iff_iff]
        simp only [Bool.and_eq_true, Bool.or_eq_true, decide_eq_true_iff]
        omega
    · rename_i hc
      refine ⟨⟨GapsOk.app.2 ⟨ho, by rw [endG_snoc]; omega, h2, trivial⟩, fun x hx => ?_, fun x hx => ?_⟩, fun t => ?_⟩
      · rcases List.mem_append.1 hx with hx | hx
        · have := hl x hx; omega
        · rw [List.mem_singleton] at hx; subst hx; omega
      · rcases List.mem_append.1 hx with hx | hx
        · exact hm x hx
        · rw [List.mem_singleton] at hx; subst hx; omega
      · unfold inP
        rw [List.any_append]
        simp
theorem addGap_end {acc : List Gp} {g : Gp} {en : Int} (h : ∀ x ∈ acc, x.2 - 1 ≤ en) : ∀ x ∈ addGap acc g, x.2 - 1 ≤ max en (g.2 - 1) := by
  intro x hx
  rcases snoc_or acc with rfl | ⟨A, k, rfl⟩
  · rw [addGap_nil, List.mem_singleton] at hx; subst hx; omega
  · have hk := h k (by simp)
    rw [addGap_snoc] at hx
    split at hx
    · rcases List.mem_append.1 hx with hx | hx
      · have := h x (List.mem_append_left _ hx); omega
      · rw [List.mem_singleton] at hx; subst hx; show max k.2 g.2 - 1 ≤ _; omega
    · rcases List.mem_append.1 hx with hx | hx
      · have := h x hx; omega
      · rw [List.mem_singleton] at hx; subst hx; omega
theorem gapsGo_cons (b : Int) (acc : List Gp) (en : Int) (g : Gp) (t : List Gp) : gapsGo b acc en (g :: t) = if g.1 < b ∨ g.1 < 0 ∨ g.2 ≤ g.1 ∨ 1099511627777 < g.2 then none else gapsGo g.1 (addGap acc g) (max en (g.2 - 1)) t := rfl
theorem gapsGo_ok : ∀ (l : List Gp) (b : Int) (acc : List Gp) (en : Int) (P : List Gp) (en' : Int), gapsGo b acc en l = some (P, en') → Accd b acc → (∀ x ∈ acc, x.2 - 1 ≤ en) →
    (∃ c, Accd c P) ∧ (∀ x ∈ P, x.2 - 1 ≤ en') ∧ en ≤ en' ∧ (en' = en ∨ en' ≤ 1099511627776) ∧ ∀ t, inP P t = (inP acc t || inP l t)
  | [], b, acc, en, P, en', h, ha, he => by
    injection h with h
    injection h with h1 h2
    subst h1 h2
    exact ⟨⟨b, ha⟩, he, Int.le_refl _, .inl rfl, fun t => by simp [inP]⟩
  | g :: t, b, acc, en, P, en', h, ha, he => by
    rw [gapsGo_cons] at h
    split at h
    · cases h
    · rename_i hc
      obtain ⟨ha1, ha2⟩ := ha.add (g := g) (by omega) (by omega) (by omega) (by omega)
      obtain ⟨q1, q2, q3, q4, q5⟩ := gapsGo_ok t _ _ _ _ _ h ha1 (addGap_end he)
      refine ⟨q1, q2, by omega, by omega, fun u => ?_⟩
      rw [q5, ha2, Bool.or_assoc]
      rfl
theorem gapsGo_id : ∀ (l : List Gp) (b : Int) (acc : List Gp) (en : Int), 0 ≤ b → GapsOk b l → (∀ x ∈ acc, x.2 < b) → (∀ x ∈ l, x.2 - 1 ≤ en ∧ x.2 ≤ 1099511627777) → ∀ a, a ≤ b → gapsGo a acc en l = some (acc ++ l, en)
  | [], b, acc, en, _, _, _, _, a, _ => by simp [gapsGo]
  | g :: t, b, acc, en, hb, ⟨h1, h2, h3⟩, ha, he, a, hab => by
    have hg := he g (by simp)
    rw [gapsGo_cons, if_neg (by omega)]
    have e : addGap acc g = acc ++ [g] := by
      rcases snoc_or acc with rfl | ⟨A, k, rfl⟩
      · rfl
      · have := ha k (by simp)
        rw [addGap_snoc, if_neg (by omega)]
    rw [e, show max en (g.2 - 1) = en by omega, gapsGo_id t (g.2 + 1) (acc ++ [g]) en (by omega) h3 (fun x hx => ?_) (fun x hx => he x (List.mem_cons_of_mem _ hx)) g.1 (by omega)]
    · simp
    · rcases List.mem_append.1 hx with hx | hx
      · have := ha x hx; omega
      · rw [List.mem_singleton] at hx; subst hx; omega

/-! a signal that is x in gaps -/
def inG (en : Int) (P : List Gp) (t : Int) : Bool := P.any fun g => decide (g.1 ≤ t) && decide (t < gapTo en g)
theorem nd_take {a u : Int} {cs : List Ch} (h : NonDec a cs) : NonDec a (cs.takeWhile fun c => decide (c.1 < u)) := h.sub (List.takeWhile_sublist _)
theorem nd_drop {a : Int} {p : Ch → Bool} : ∀ {cs : List Ch}, NonDec a cs → NonDec a (cs.dropWhile p) := fun h => h.sub (List.dropWhile_sublist _)
theorem nd_dropLt {a u : Int} : ∀ {cs : List Ch}, NonDec a cs → NonDec u (cs.dropWhile fun c => decide (c.1 < u))
  | [], _ => trivial
  | c :: cs, h => by
    rw [List.dropWhile_cons]
    split
    · exact nd_dropLt h.2
    · rename_i hc; exact ⟨by simpa using hc, h.2⟩
theorem nd_dropLe {a u : Int} : ∀ {cs : List Ch}, NonDec a cs → NonDec (u + 1) (cs.dropWhile fun c => decide (c.1 ≤ u))
  | [], _ => trivial
  | c :: cs, h => by
    rw [List.dropWhile_cons]
    split
    · exact nd_dropLe h.2
    · rename_i hc
      have : ¬ c.1 ≤ u := by simpa using hc
      exact ⟨by omega, h.2⟩
theorem take_lt {u : Int} {cs : List Ch} : ∀ c ∈ cs.takeWhile (fun c => decide (c.1 < u)), c.1 < u := fun c hc => by
  have := List.all_eq_true.1 List.all_takeWhile c hc
  simpa using this
theorem take_le {u : Int} {cs : List Ch} : ∀ c ∈ cs.takeWhile (fun c => decide (c.1 ≤ u)), c.1 ≤ u := fun c hc => by
  have := List.all_eq_true.1 List.all_takeWhile c hc
  simpa using this
theorem mem_take {p : Ch → Bool} {cs : List Ch} {c : Ch} (h : c ∈ cs.takeWhile p) : c ∈ cs := (List.takeWhile_sublist _).subset h
theorem mem_drop {p : Ch → Bool} {cs : List Ch} {c : Ch} (h : c ∈ cs.dropWhile p) : c ∈ cs := (List.dropWhile_sublist _).subset h
theorem val_early {v : ByteArray} {t u : Int} {cs : List Ch} {a : Int} (h : NonDec a cs) (ht : t < u) : val v (cs.takeWhile fun c => decide (c.1 < u)) t = val v cs t := by
  have e : cs = cs.takeWhile (fun c => decide (c.1 < u)) ++ cs.dropWhile (fun c => decide (c.1 < u)) := by rw [List.takeWhile_append_dropWhile]
  conv => rhs; rw [e]
  rw [val_append, val_late (nd_dropLt h) ht]
theorem val_after {v : ByteArray} {t u w : Int} {cs : List Ch} {a : Int} (h : NonDec a cs) (hu : w ≤ u) (ht : u ≤ t) : val (val v cs u) (((cs.dropWhile fun c => decide (c.1 < w))).dropWhile fun c => decide (c.1 ≤ u)) t = val v cs t := by
  have e : cs = cs.takeWhile (fun c => decide (c.1 < w)) ++ cs.dropWhile (fun c => decide (c.1 < w)) := by rw [List.takeWhile_append_dropWhile]
  generalize hA : cs.takeWhile (fun c => decide (c.1 < w)) = A at e
  have hA1 : ∀ c ∈ A, c.1 < w := by subst hA; exact take_lt
  have hnd := nd_drop (p := fun c => decide (c.1 < w)) h
  generalize cs.dropWhile (fun c => decide (c.1 < w)) = B at e hnd ⊢
  have e2 : B = B.takeWhile (fun c => decide (c.1 ≤ u)) ++ B.dropWhile (fun c => decide (c.1 ≤ u)) := by rw [List.takeWhile_append_dropWhile]
  have hnd2 := nd_dropLe (u := u) hnd
  generalize hC : B.takeWhile (fun c => decide (c.1 ≤ u)) = C at e2
  have hC1 : ∀ c ∈ C, c.1 ≤ u := by subst hC; exact take_le
  generalize B.dropWhile (fun c => decide (c.1 ≤ u)) = D at e2 hnd2 ⊢
  subst e2 e
  have e1 : val v (A ++ (C ++ D)) u = val v (A ++ C) u := by rw [← List.append_assoc, val_append, val_late hnd2 (by omega)]
  have e2 : val v (A ++ C) t = val v (A ++ C) u := val_all _ (fun c hc => by
    rcases List.mem_append.1 hc with hc | hc
    · have := hA1 c hc; omega
    · exact hC1 c hc) ht
  rw [e1, ← e2, ← List.append_assoc, ← val_append]

theorem offL_cons (x : ByteArray) (at_ : Int → ByteArray) (en : Int) (g : Gp) (P : List Gp) (cs : List Ch) : offL x at_ en (g :: P) cs = cs.takeWhile (fun c => decide (c.1 < g.1)) ++ ((g.1, x) :: ((if gapTo en g ≤ 1099511627776 then [(gapTo en g, at_ (gapTo en g))] else []) ++
      offL x at_ en P ((cs.dropWhile fun c => decide (c.1 < g.1)).dropWhile fun c => decide (c.1 ≤ gapTo en g)))) := rfl
theorem gapTo_gt {en : Int} {g : Gp} (h : g.1 < g.2) (h2 : g.2 ≤ 1099511627777) : g.1 < gapTo en g ∧ g.2 ≤ gapTo en g := by unfold gapTo; split <;> omega
theorem nd_pair {a : Int} {c : Ch} {l : List Ch} (h1 : a ≤ c.1) (h2 : NonDec c.1 l) : NonDec a (c :: l) := ⟨h1, h2⟩
theorem offL_nd (x : ByteArray) (at_ : Int → ByteArray) (en : Int) (hen : en ≤ 1099511627776) : ∀ (P : List Gp) (cs : List Ch) (a b : Int), a ≤ b → GapsOk b P → (∀ g ∈ P, g.2 ≤ 1099511627777 ∧ g.2 - 1 ≤ en) → NonDec a cs → NonDec a (offL x at_ en P cs)
  | [], cs, a, b, _, _, _, h => h
  | g :: P, cs, a, b, hab, ⟨h1, h2, h3⟩, hm, h => by
    have hg := hm g (by simp)
    obtain ⟨hg1, hg2⟩ := gapTo_gt (en := en) h2 hg.1
    rw [offL_cons]
    refine NonDec.append (b := g.1) (nd_take h) (fun c hc => by have := take_lt c hc; omega) (by omega) ⟨Int.le_refl _, ?_⟩
    have hr : NonDec (gapTo en g) (offL x at_ en P ((cs.dropWhile fun c => decide (c.1 < g.1)).dropWhile fun c => decide (c.1 ≤ gapTo en g))) := by
      rcases (show gapTo en g = g.2 ∨ (gapTo en g = 1099511627777 ∧ g.2 = en + 1) by unfold gapTo; split <;> omega) with e | ⟨e1, e2⟩
      · exact offL_nd x at_ en hen P _ (gapTo en g) (g.2 + 1) (by omega) h3 (fun k hk => hm k (List.mem_cons_of_mem _ hk)) ((nd_dropLe (nd_drop h)).mono (by omega))
      · cases P with
        | nil => exact (nd_dropLe (nd_drop h)).mono (by omega)
        | cons k P =>
          have hk := hm k (by simp)
          have := h3.1
          have := h3.2.1
          omega
    split
    · exact ⟨by show g.1 ≤ gapTo en g; omega, hr⟩
    · exact hr.mono (by omega)
theorem offL_mem (x : ByteArray) (at_ : Int → ByteArray) (en : Int) (hen : en ≤ 1099511627776) : ∀ (P : List Gp) (cs : List Ch) (c : Ch), c ∈ offL x at_ en P cs → c ∈ cs ∨ (∃ g ∈ P, c = (g.1, x)) ∨ ∃ g ∈ P, c = (gapTo en g, at_ (gapTo en g)) ∧ gapTo en g ≤ 1099511627776
  | [], _, _, h => .inl h
  | g :: P, cs, c, h => by
    rw [offL_cons] at h
    rcases List.mem_append.1 h with h | h
    · exact .inl (mem_take h)
    rcases List.mem_cons.1 h with h | h
    · exact .inr (.inl ⟨g, by simp, h⟩)
    rcases List.mem_append.1 h with h | h
    · split at h
      · rename_i h6
        rw [List.mem_singleton] at h
        exact .inr (.inr ⟨g, by simp, h, h6⟩)
      · cases h
    · rcases offL_mem x at_ en hen P _ c h with h | ⟨k, hk, e⟩ | ⟨k, hk, e⟩
      · exact .inl (mem_drop (mem_drop h))
      · exact .inr (.inl ⟨k, List.mem_cons_of_mem _ hk, e⟩)
      · exact .inr (.inr ⟨k, List.mem_cons_of_mem _ hk, e⟩)
theorem inG_cons (en : Int) (g : Gp) (P : List Gp) (t : Int) : inG en (g :: P) t = ((decide (g.1 ≤ t) && decide (t < gapTo en g)) || inG en P t) := rfl
theorem inG_none {en t b : Int} (h : t < b) : ∀ {P : List Gp}, GapsOk b P → inG en P t = false := fun {P} hP => by
  unfold inG
  rw [List.any_eq_false]
  intro g hg
  have := hP.mem g hg
  simp; omega
/-- the values of a signal that is x in the gaps -/
theorem offL_val (x : ByteArray) (at_ : Int → ByteArray) (en : Int) (hen : en ≤ 1099511627776) (t : Int) (ht : t ≤ 1099511627776) : ∀ (P : List Gp) (cs : List Ch) (v : ByteArray) (a b : Int), a ≤ b → GapsOk b P → (∀ g ∈ P, g.2 ≤ 1099511627777 ∧ g.2 - 1 ≤ en) → NonDec a cs →
    (∀ g ∈ P, gapTo en g ≤ 1099511627776 → at_ (gapTo en g) = val v cs (gapTo en g)) → val v (offL x at_ en P cs) t = if inG en P t = true then x else val v cs t
  | [], _, _, _, _, _, _, _, _, _ => rfl
  | g :: P, cs, v, a, b, hab, ⟨h1, h2, h3⟩, hm, h, hat => by
    have hg := hm g (by simp)
    obtain ⟨hg1, hg2⟩ := gapTo_gt (en := en) h2 hg.1
    have hP : gapTo en g = g.2 ∨ (gapTo en g = 1099511627777 ∧ P = []) := by
      rcases (show gapTo en g = g.2 ∨ (gapTo en g = 1099511627777 ∧ g.2 = en + 1) by unfold gapTo; split <;> omega) with e | ⟨e1, e2⟩
      · exact .inl e
      · cases P with
        | nil => exact .inr ⟨e1, rfl⟩
        | cons k P =>
          have hk := hm k (by simp)
          have := h3.1
          have := h3.2.1
          omega
    have hC : NonDec (gapTo en g) ((cs.dropWhile fun c => decide (c.1 < g.1)).dropWhile fun c => decide (c.1 ≤ gapTo en g)) := (nd_dropLe (nd_drop h)).mono (by omega)
    have hr : NonDec (gapTo en g) (offL x at_ en P ((cs.dropWhile fun c => decide (c.1 < g.1)).dropWhile fun c => decide (c.1 ≤ gapTo en g))) := by
      rcases hP with e | ⟨e1, rfl⟩
      · exact offL_nd x at_ en hen P _ (gapTo en g) (g.2 + 1) (by omega) h3 (fun k hk => hm k (List.mem_cons_of_mem _ hk)) hC
      · exact hC
    rw [offL_cons, val_append, inG_cons]
    have hmid : NonDec (gapTo en g) ((if gapTo en g ≤ 1099511627776 then [(gapTo en g, at_ (gapTo en g))] else []) ++ offL x at_ en P ((cs.dropWhile fun c => decide (c.1 < g.1)).dropWhile fun c => decide (c.1 ≤ gapTo en g))) := by
      split
      · exact ⟨Int.le_refl _, hr⟩
      · exact hr
    by_cases q1 : t < g.1
    · rw [val_late (a := g.1) (nd_pair (c := (g.1, x)) (Int.le_refl _) (hmid.mono (show (g.1, x).1 ≤ gapTo en g by show g.1 ≤ gapTo en g; omega))) q1, val_early h q1, show decide (g.1 ≤ t) = false by simp; omega, Bool.false_and, Bool.false_or, inG_none (b := g.2 + 1) (by omega) h3]
      rfl
    · rw [val_cons, if_pos (show (g.1, x).1 ≤ t by show g.1 ≤ t; omega)]
      by_cases q2 : t < gapTo en g
      · rw [val_late hmid q2, show decide (g.1 ≤ t) = true by simp; omega, show decide (t < gapTo en g) = true by simp; omega]
        rfl
      · have e : gapTo en g = g.2 := by rcases hP with e | ⟨e1, -⟩ <;> omega
        rw [if_pos (by omega), List.cons_append, List.nil_append, val_cons, if_pos (show (gapTo en g, at_ (gapTo en g)).1 ≤ t by show gapTo en g ≤ t; omega), hat g (by simp) (by omega), show decide (t < gapTo en g) = false by simp; omega, Bool.and_false, Bool.false_or]
        rw [offL_val x at_ en hen t ht P _ (val v cs (gapTo en g)) (gapTo en g) (g.2 + 1) (by omega) h3 (fun k hk => hm k (List.mem_cons_of_mem _ hk)) hC ?_]
        · rw [val_after h (by omega) (by omega)]
        · intro k hk hk6
          have hk0 := hm k (List.mem_cons_of_mem _ hk)
          have hk1 := h3.mem k hk
          have hk2 := (gapTo_gt (en := en) hk1.2 hk0.1).1
          rw [hat k (List.mem_cons_of_mem _ hk) hk6, val_after h (by omega) (by omega)]
end Go.Proofs.YtbiadennhnokhaaGreatDoor
/- builder.times: the gaps. -/
namespace Go.Proofs.YtbiadennhnokhaaGreatDoor
open Go.RowKit
set_option linter.unusedSimpArgs false

theorem BI.grown {w W V : World} {t u : Tr} {p q : TP} (h : BI w t p u q W) (hvp : q.vp.ownBlock = none) {v : Value} {n : Nat} {xs : List Value} (ho : W.ownsRow (w.heap.size + 2) 57 2 v n xs) (hg : W.grownBy V v.ownBlock) : BI w t p u q V :=
  { x := h.x.grown hg h.lt (fun e => by have := (own_lo ho e.symm).1; omega)
    s := h.s.kept hg (own_apart h.s ho (by decide))
    v := h.v.kept hg (own_apart h.v ho (by decide))
    g := h.g.kept hg (own_apart h.g ho (by decide))
    c := fun x hx => (h.c x hx).imp id (fun h0 => h0.kept hg (own_apart h0 ho (by decide)))
    r := h.r.kept hg (Or.inl hvp)
    m := h.m
    b := h.b.grown hg h.b.size (fun k e => by have := (own_lo ho e).1; omega)
    k := h.k.grown hg h.lt2 (fun e => by have := (own_lo ho e.symm).1; omega)
    l := h.l }
theorem BI.hit {w W : World} {t u : Tr} {p q : TP} (h : BI w t p u q W) (hvp : q.vp.ownBlock = none) {g c n : Nat} {xs : List Value} (ho : W.ownsRow (w.heap.size + 2) 57 2 (.slice (some ⟨g, 0, none⟩) n c) n xs) (o : Nat) (z : Value) : BI w t p u q (W.setCell ⟨g, o, none⟩ z) := by
  have hlo := own_lo ho (g := g) rfl
  exact
  { x := h.x.other (by show g ≠ _; omega) _
    s := ownsRow_setCell_other (a := ⟨g, o, none⟩) h.s (own_ne h.s ho (by decide) rfl) _
    v := ownsRow_setCell_other (a := ⟨g, o, none⟩) h.v (own_ne h.v ho (by decide) rfl) _
    g := ownsRow_setCell_other (a := ⟨g, o, none⟩) h.g (own_ne h.g ho (by decide) rfl) _
    c := fun x hx => (h.c x hx).imp id (fun h0 => ownsRow_setCell_other (a := ⟨g, o, none⟩) h0 (own_ne h0 ho (by decide) rfl) _)
    r := ownsRow_setCell_other (a := ⟨g, o, none⟩) h.r (by rw [hvp]; intro e; cases e) _
    m := h.m
    b := h.b.setCell (by show w.heap.size ≤ g; omega) _
    k := h.k.other (by show g ≠ _; omega) _
    l := h.l }
/-- what lies in memory while the gaps are taken -/
structure GpI (w : World) (t : Tr) (p : TP) (u : Tr) (q : TP) (acc : List Gp) (v : Value) (W : World) : Prop where
  i : BI w t p u q W
  o : W.ownsRow (w.heap.size + 2) 57 2 v acc.length (gps acc)
theorem GpI.next {w W V : World} {t u : Tr} {p q : TP} {acc : List Gp} {v : Value} (h : GpI w t p u q acc v W) (hb : Below W.heap.size W V) : GpI w t p u q acc v V := ⟨h.i.next hb, below_own h.o hb⟩
theorem gps_set (A : List Gp) (h : Gp) (m : Int) : (gps (A ++ [h])).set (A.length * 2 + 1) (.int .i64 m) = gps (A ++ [(h.1, m)]) := by
  rw [gps_app, gps_app, List.set_append, if_neg (by rw [gps_len]; omega), gps_len, show A.length * 2 + 1 - 2 * A.length = 1 by omega]
  rfl
theorem GpI.hit {w W : World} {t u : Tr} {p q : TP} {A : List Gp} {x : Gp} {g c : Nat} (h : GpI w t p u q (A ++ [x]) (.slice (some ⟨g, 0, none⟩) (A.length + 1) c) W) (hvp : q.vp.ownBlock = none) (m : Int) :
    GpI w t p u q (A ++ [(x.1, m)]) (.slice (some ⟨g, 0, none⟩) (A.length + 1) c) (W.setCell ⟨g, A.length * 2 + 1, none⟩ (.int .i64 m)) := by
  have ho := h.o
  have hl : (A ++ [x]).length = A.length + 1 := by simp
  have hl2 : (A ++ [(x.1, m)]).length = A.length + 1 := by simp
  rw [hl] at ho
  refine ⟨h.i.hit hvp ho _ _, ?_⟩
  rw [hl2, ← gps_set]
  exact own_set ho _ _
def TimesP (w : World) (t : Tr) (p : TP) (u : Tr) (r : Option (List Gp × Int)) (e : Ending) (W : World) : Prop := match r with
  | none => StepP w t p 2 u e W
  | some r => StepP w t p 0 { u with P := r.1, en := r.2 } e W
set_option maxHeartbeats 3200000 in
set_option maxRecDepth 100000 in
theorem tb_gaps (w W : World) (t u : Tr) (p q : TP) (h : BI w t p u q W) (ht : TrM w t p) (hvp : q.vp.ownBlock = none) (hl : t.P.length ≤ 1000) (hl2 : u.G.length ≤ 1000) (hw : ∀ s ∈ u.G, s.2.2.length ≤ 100000) :
    Calls Tryz.prog 57 #[.pointer (some ⟨w.heap.size, 0, none⟩)] W (TimesP w t p u (timesF t u.G)) := by
  have HI := Lib.hid h
  have HT := Lib.hid ht
  have c7 := h.x.cell (j := 7) rfl
  have c8 := h.x.cell (j := 8) rfl
  obtain ⟨pa, pc, ep, -, -⟩ := ht.q.shape
  rw [ep] at c7
  have HEP := Lib.hid ep
  clear h ht ep
  by_cases hen : t.en < 0 ∨ 1099511627776 < t.en
  · have HR := Lib.hid (show timesF t u.G = none by unfold timesF; rw [if_pos hen])
    rw [HR.out]
    obtain ⟨en, hee⟩ : ∃ en, t.en = en := ⟨_, rfl⟩
    rw [hee] at c8 hen
    by_cases h0 : en < 0
    · go_enter Tryz.func57, Tryz.ntmps57
      go_wp2_with fail
      go_ret
      exact ⟨rfl, HI.out.b, fun h => by cases h⟩
    · have h1 : (1099511627776 : Int) < en := by omega
      clear hen
      go_enter Tryz.func57, Tryz.ntmps57
      go_wp2_with fail
      go_ret
      exact ⟨rfl, HI.out.b, fun h => by cases h⟩
  · obtain ⟨en0, hee⟩ : ∃ en, t.en = en := ⟨_, rfl⟩
    have hen1 : 0 ≤ en0 := by omega
    have hen2 : en0 ≤ 1099511627776 := by omega
    have HTF := Lib.hid (show timesF t u.G = (gapsGo 0 [] t.en t.P).map fun r => (r.1, lastT u.G r.2) by unfold timesF; rw [if_neg hen])
    rw [hee] at c8
    have HEE := Lib.hid hee
    have hz1 : ¬ en0 < 0 := by omega
    have hz2 : ¬ (1099511627776 : Int) < en0 := by omega
    have HO0 := Lib.hid (World.ownsRow_nil W (w.heap.size + 2) 57 2)
    obtain ⟨i0, hi, iz0, iz1, iz2⟩ := info_parts (P := Tryz.prog) gp_info
    clear hen hee
    go_enter Tryz.func57, Tryz.ntmps57
    go_wp2_with fail
    clear hz1 hz2
    go_loopw [29, 3, 4, 5] (fun i e_ b_ v5 wr => ∃ (k : Nat) (b en : Int) (acc : List Gp), k ≤ t.P.length ∧ i = .int .i64 k ∧ e_ = .int .i64 en ∧ b_ = .int .i64 b ∧ acc.length ≤ k ∧ gapsGo b acc en (t.P.drop k) = gapsGo 0 [] t.en t.P ∧ 0 ≤ en ∧ en ≤ 1099511627776 ∧ GpI w t p u q acc v5 wr) (fun i _ _ _ _ => t.P.length - (intOf i).toNat)
    case atStart => exact ⟨0, 0, en0, [], Nat.zero_le _, rfl, rfl, rfl, Nat.zero_le _, by rw [HEE.out]; rfl, hen1, hen2, HI.out, HO0.out⟩
    case round =>
      obtain ⟨k, b, en, acc, hk, rfl, rfl, rfl, hal, hgo, he1, he2, hc⟩ := hrel
      have HGO := Lib.hid hgo
      have HC := Lib.hid hc
      clear hgo hc c7 c8
      by_cases hlt : k < t.P.length
      · have hsq := (HT.out.q).below HC.out.i.b
        rw [HEP.out] at hsq
        obtain ⟨gb, go_, rfl, hcell⟩ := hsq.gps hlt
        have HDR := Lib.hid (List.drop_eq_getElem_cons hlt)
        generalize t.P[k] = x at *
        obtain ⟨g1, g2⟩ := x
        have d0 : wr.cell? ⟨gb, go_ + k * 2, none⟩ = some (.int .i64 g1) := hcell 0 _ rfl
        have d1 : wr.cell? ⟨gb, go_ + k * 2 + 1, none⟩ = some (.int .i64 g2) := hcell 1 _ rfl
        have HBX := Lib.hid (show Below wr.heap.size wr (wr.alloc (.cells #[.int .i64 g1, .int .i64 g2] 57)) from (Below.refl _ _).alloc (Nat.le_refl _) _)
        clear hcell hsq
        by_cases h1 : g1 < b
        · have b1 : decide (g1 < b) = true := by simpa using h1
          have HR := Lib.hid (show timesF t u.G = none by
            rw [HTF.out, ← HGO.out, HDR.out, gapsGo_cons, if_pos (Or.inl h1)]; rfl)
          rw [HR.out]
          have HI5 := Lib.hid (HC.out.next HBX.out).i
          clear HR HGO HDR
          go_wp2_with fail
          go_ret
          exact ⟨rfl, HI5.out.b, fun h => by cases h⟩
        · have b1 : decide (g1 < b) = false := by simpa using h1
          by_cases h2 : g1 < 0
          · have b2 : decide (g1 < 0) = true := by simpa using h2
            have HR := Lib.hid (show timesF t u.G = none by
              rw [HTF.out, ← HGO.out, HDR.out, gapsGo_cons, if_pos (Or.inr (Or.inl h2))]; rfl)
            rw [HR.out]
            have HI5 := Lib.hid (HC.out.next HBX.out).i
            clear HR HGO HDR
            go_wp2_with fail
            go_ret
            exact ⟨rfl, HI5.out.b, fun h => by cases h⟩
          · have b2 : decide (g1 < 0) = false := by simpa using h2
            by_cases h3 : g2 ≤ g1
            · have b3 : decide (g2 ≤ g1) = true := by simpa using h3
              have HR := Lib.hid (show timesF t u.G = none by
                rw [HTF.out, ← HGO.out, HDR.out, gapsGo_cons, if_pos (Or.inr (Or.inr (Or.inl h3)))]; rfl)
              rw [HR.out]
              have HI5 := Lib.hid (HC.out.next HBX.out).i
              clear HR HGO HDR
              go_wp2_with fail
              go_ret
              exact ⟨rfl, HI5.out.b, fun h => by cases h⟩
            · have b3 : decide (g2 ≤ g1) = false := by simpa using h3
              by_cases h4 : 1099511627777 < g2
              · have b4 : decide ((1099511627777 : Int) < g2) = true := by simpa using h4
                have HR := Lib.hid (show timesF t u.G = none by
                  rw [HTF.out, ← HGO.out, HDR.out, gapsGo_cons, if_pos (Or.inr (Or.inr (Or.inr h4)))]; rfl)
                rw [HR.out]
                have HI5 := Lib.hid (HC.out.next HBX.out).i
                clear HR HGO HDR
                go_wp2_with fail
                go_ret
                exact ⟨rfl, HI5.out.b, fun h => by cases h⟩
              · have b4 : decide ((1099511627777 : Int) < g2) = false := by simpa using h4
                have HG2 := Lib.hid (show gapsGo g1 (addGap acc (g1, g2)) (max en (g2 - 1)) (t.P.drop (k + 1)) = gapsGo 0 [] t.en t.P by
                  rw [← HGO.out, HDR.out, gapsGo_cons, if_neg (by omega)])
                have HC5 := Lib.hid (HC.out.next HBX.out)
                have HXF := Lib.hid (OwnRow.fresh wr #[.int .i64 g1, .int .i64 g2] 57)
                have hw5 : wr.heap.size < (wr.alloc (.cells #[.int .i64 g1, .int .i64 g2] 57)).heap.size := by simp
                rcases snoc_or acc with rfl | ⟨A, ⟨h1_, h2_⟩, rfl⟩
                · obtain ⟨ua, uc, rfl, -, -⟩ := (SlR.of_own HC.out.o).shape
                  have e0 := HXF.out.cell (j := 0) rfl
                  have e1 := HXF.out.cell (j := 1) rfl
                  rw [show ([] : List Gp).length = 0 from rfl] at *
                  go_wp2_with fail
                  generalize wr.alloc (.cells #[.int .i64 g1, .int .i64 g2] 57) = w5 at *
                  go_quiet (fail)
                  have hb6 : Below w5.heap.size w5 (w5.drewN nq) := below_dn (Below.refl _ _) nq
                  have HC6 := Lib.hid (HC5.out.next hb6)
                  have HX6 := Lib.hid (HXF.out.below hb6 hw5)
                  have hw6 : wr.heap.size < (w5.drewN nq).heap.size := Nat.lt_of_lt_of_le hw5 hb6.size
                  clear hb6 e0 e1
                  generalize w5.drewN nq = w6 at *
                  have e0 := HX6.out.cell (j := 0) rfl
                  have e1 := HX6.out.cell (j := 1) rfl
                  have HNW := Lib.hid (World.news_of_block (w := w6.alloc (.cells #[.int .i64 g1, .int .i64 g2] 57)) (cs := #[.int .i64 g1, .int .i64 g2]) (t := 57) (fr := (0, 0)) (by exact heap_alloc_new _ _))
                  have HBA := Lib.hid (show Below w6.heap.size w6 (w6.alloc (.cells #[.int .i64 g1, .int .i64 g2] 57)) from (Below.refl _ _).alloc (Nat.le_refl _) _)
                  have HC7 := Lib.hid (HC6.out.next HBA.out)
                  have HX7 := Lib.hid (HX6.out.below HBA.out hw6)
                  have hlow := HC6.out.i.lt2
                  have HLO := Lib.hid (fun gq (e : Value.ownBlock (.slice ua 0 uc) = some gq) => (own_lo HC.out.o e).2)
                  have hml : ([] : List Gp).length ≤ 1000 := by first | (simp; done) | (simp; omega)
                  go_wp2_with (at_builtin; refine wpList_append_own_at _ rfl _ _ 25 rfl (w.heap.size + 2) 57 i0 (.agg #[.int .i64 0, .int .i64 0]) 2 16 Tryz.underlying25 hi iz0 iz1 iz2 rfl (by decide) _ _ _ rfl HC7.out.o ⟨w6.heap.size, 0, none⟩ 1 1 [.int .i64 g1, .int .i64 g2] rfl rfl HNW.out (by simp [Value.oneCell']) (by unfold maxLen; omega) (by omega) (by simp; omega) ?_)
                  intro v8 w8 ho8 hg8 _ _
                  have HC8 := Lib.hid (show GpI w t p u q ([(g1, g2)]) v8 w8 from ⟨HC7.out.i.grown hvp HC7.out.o hg8, by have := ho8; simpa [gps_app, gps, gpC] using this⟩)
                  have HX8 := Lib.hid (HX7.out.grown hg8 (Nat.lt_of_lt_of_le hw6 HBA.out.size) (fun e => by have := HLO.out _ e.symm; omega))
                  have HG3 := HG2.out
                  rw [addGap_nil, ← addGap_nil (g1, g2), addGap_nil] at HG3
                  have HG3 := Lib.hid HG3
                  clear ho8 hg8 e0 e1 HC7 HX7 HC6 HX6
                  have e1 := HX8.out.cell (j := 1) rfl
                  go_wp2_with fail
                  go_roundw
                  case rel => exact ⟨k + 1, g1, max en (g2 - 1), [(g1, g2)], hlt, by go_num, by go_num, rfl, by first | (simp; done) | (simp; omega), HG3.out, by omega, by omega, HC8.out⟩
                  case measure => simp [intOf]; omega
                · have ho5 := HC5.out.o
                  have hlA : (A ++ [(h1_, h2_)]).length = A.length + 1 := by simp
                  rw [hlA] at ho5 hal
                  obtain ⟨g, c, rfl, -, hg1, hg2, hat⟩ := own_at ho5 (by omega)
                  have k1 := hat (A.length * 2 + 1) (.int .i64 h2_) (by rw [gps_app, List.getElem?_append_right (by rw [gps_len]; omega), gps_len, show A.length * 2 + 1 - 2 * A.length = 1 by omega]; rfl)
                  have z1 := own_frozen ho5 (A.length * 2 + 1)
                  have e0 := HXF.out.cell (j := 0) rfl
                  have e1 := HXF.out.cell (j := 1) rfl
                  clear hat ho5
                  by_cases hh : g1 ≤ h2_
                  · have bh : decide (g1 ≤ h2_) = true := by simpa using hh
                    have HCH := Lib.hid (fun (n : Nat) (m : Int) => (show GpI w t p u q (A ++ [(h1_, h2_)]) (.slice (some ⟨g, 0, none⟩) (A.length + 1) c) _ from HC5.out.next (below_dn (Below.refl _ _) n)).hit (A := A) hvp m)
                    go_wp2_with fail
                    generalize wr.alloc (.cells #[.int .i64 g1, .int .i64 g2] 57) = w5 at *
                    go_quiet (fail)
                    go_wp2_with fail
                    go_region
                    have HC8 := Lib.hid (HCH.out (nq + 1) (max h2_ g2))
                    have HX8 := Lib.hid ((HXF.out.below (below_dn (Below.refl _ _) (nq + 1)) hw5).other (a := ⟨g, A.length * 2 + 1, none⟩) (by show g ≠ wr.heap.size; have := (own_lo HC.out.o (g := g) rfl).2; omega) (.int .i64 (max h2_ g2)))
                    have HG3 := HG2.out
                    rw [addGap_snoc, if_pos hh] at HG3
                    have HG3 := Lib.hid HG3
                    clear e0 e1 k1 z1 HCH
                    generalize (w5.drewN (nq + 1)).setCell ⟨g, A.length * 2 + 1, none⟩ (.int .i64 (max h2_ g2)) = w8 at *
                    have e1 := HX8.out.cell (j := 1) rfl
                    go_wp2_with fail
                    go_roundw
                    case rel => exact ⟨k + 1, g1, max en (g2 - 1), A ++ [(h1_, max h2_ g2)], hlt, by go_num, by go_num, rfl, by simp; omega, HG3.out, by omega, by omega, HC8.out⟩
                    case measure => simp [intOf]; omega
                  · have bh : decide (g1 ≤ h2_) = false := by simpa using hh
                    go_wp2_with fail
                    generalize wr.alloc (.cells #[.int .i64 g1, .int .i64 g2] 57) = w5 at *
                    go_quiet (fail)
                    have hb6 : Below w5.heap.size w5 (w5.drewN nq) := below_dn (Below.refl _ _) nq
                    have HC6 := Lib.hid (HC5.out.next hb6)
                    have HX6 := Lib.hid (HXF.out.below hb6 hw5)
                    have hw6 : wr.heap.size < (w5.drewN nq).heap.size := Nat.lt_of_lt_of_le hw5 hb6.size
                    clear hb6 e0 e1
                    generalize w5.drewN nq = w6 at *
                    have e0 := HX6.out.cell (j := 0) rfl
                    have e1 := HX6.out.cell (j := 1) rfl
                    have HNW := Lib.hid (World.news_of_block (w := w6.alloc (.cells #[.int .i64 g1, .int .i64 g2] 57)) (cs := #[.int .i64 g1, .int .i64 g2]) (t := 57) (fr := (0, 0)) (by exact heap_alloc_new _ _))
                    have HBA := Lib.hid (show Below w6.heap.size w6 (w6.alloc (.cells #[.int .i64 g1, .int .i64 g2] 57)) from (Below.refl _ _).alloc (Nat.le_refl _) _)
                    have HC7 := Lib.hid (HC6.out.next HBA.out)
                    have HX7 := Lib.hid (HX6.out.below HBA.out hw6)
                    have hlow := HC6.out.i.lt2
                    have HLO := Lib.hid (fun gq (e : Value.ownBlock (.slice (some ⟨g, 0, none⟩) (A.length + 1) c) = some gq) => (own_lo HC.out.o e).2)
                    have hml : ((A ++ [(h1_, h2_)]) : List Gp).length ≤ 1000 := by first | (simp; done) | (simp; omega)
                    go_wp2_with (at_builtin; refine wpList_append_own_at _ rfl _ _ 25 rfl (w.heap.size + 2) 57 i0 (.agg #[.int .i64 0, .int .i64 0]) 2 16 Tryz.underlying25 hi iz0 iz1 iz2 rfl (by decide) _ _ _ rfl HC7.out.o ⟨w6.heap.size, 0, none⟩ 1 1 [.int .i64 g1, .int .i64 g2] rfl rfl HNW.out (by simp [Value.oneCell']) (by unfold maxLen; omega) (by omega) (by simp; omega) ?_)
                    intro v8 w8 ho8 hg8 _ _
                    have HC8 := Lib.hid (show GpI w t p u q (A ++ [(h1_, h2_)] ++ [(g1, g2)]) v8 w8 from ⟨HC7.out.i.grown hvp HC7.out.o hg8, by have := ho8; simpa [gps_app, gps, gpC] using this⟩)
                    have HX8 := Lib.hid (HX7.out.grown hg8 (Nat.lt_of_lt_of_le hw6 HBA.out.size) (fun e => by have := HLO.out _ e.symm; omega))
                    have HG3 := HG2.out
                    rw [addGap_snoc, if_neg (show ¬ g1 ≤ h2_ by omega)] at HG3
                    have HG3 := Lib.hid HG3
                    clear ho8 hg8 e0 e1 HC7 HX7 HC6 HX6
                    have e1 := HX8.out.cell (j := 1) rfl
                    go_wp2_with fail
                    go_roundw
                    case rel => exact ⟨k + 1, g1, max en (g2 - 1), A ++ [(h1_, h2_)] ++ [(g1, g2)], hlt, by go_num, by go_num, rfl, by first | (simp; done) | (simp; omega), HG3.out, by omega, by omega, HC8.out⟩
                    case measure => simp [intOf]; omega
      · obtain rfl : k = t.P.length := by omega
        have HTF2 := Lib.hid (show timesF t u.G = some (acc, lastT u.G en) by
          rw [HTF.out, ← HGO.out, List.drop_length]; rfl)
        have c15 := HC.out.i.x.cell (j := 15) rfl
        obtain ⟨ga, gc, eg⟩ := HC.out.i.vgk
        have hML := HC.out.i.ml
        obtain ⟨n, hn⟩ : ∃ n, q.M.length = n := ⟨_, rfl⟩
        have hn2 : n ≤ 1000 := by rw [← hn, hML]; exact hl2
        have HN := Lib.hid (show u.G.length = n by rw [← hML]; exact hn)
        rw [eg, hn] at c15
        rw [hn] at eg
        have HEG := Lib.hid eg
        have HMN := Lib.hid hn
        have HM := Lib.hid HC.out.i.m
        clear hML hn eg hl2 HGO HTF hlt
        obtain ⟨ua, uc, rfl, -, -⟩ := (SlR.of_own HC.out.o).shape
        have hal2 : acc.length ≤ 1000 := by omega
        go_wp2_with fail
        go_loopw [101, 3] (fun i e_ wr2 => ∃ (k : Nat) (e2 : Int), k ≤ n ∧ i = .int .i64 k ∧ e_ = .int .i64 e2 ∧ lastT (u.G.drop k) e2 = lastT u.G en ∧ GpI w t p u q acc (.slice ua acc.length uc) wr2) (fun i _ _ => n - (intOf i).toNat)
        case atStart => exact ⟨0, en, Nat.zero_le _, rfl, rfl, rfl, HC.out⟩
        case round =>
          obtain ⟨k, e2, hk2, rfl, rfl, hla, hc2⟩ := hrel
          have HLA := Lib.hid hla
          have HC2 := Lib.hid hc2
          clear hla hc2 c15
          by_cases hlt : k < n
          · have hku : k < u.G.length := by rw [HN.out]; exact hlt
            have hkm : k < q.M.length := by rw [HMN.out]; exact hlt
            have hMk : q.M[k].1 = u.G[k] := by
              have h1 : (q.M.map Prod.fst)[k]? = some q.M[k].1 := by rw [List.getElem?_map, List.getElem?_eq_getElem hkm]; rfl
              rw [HM.out, List.getElem?_eq_getElem hku] at h1
              exact (Option.some.inj h1).symm
            obtain ⟨g, c, eg2, hg1, hg2, s0, s1, s2, s3⟩ := HC2.out.i.sg hkm
            have eg3 := HEG.out
            rw [eg2] at eg3
            injection eg3 with eg3 _ eg4
            subst eg3 eg4
            have hww := hw _ (List.getElem_mem hku)
            have HDR := Lib.hid (List.drop_eq_getElem_cons hku)
            rw [hMk] at s0 s1 s3
            generalize u.G[k] = x at *
            obtain ⟨kd, wd, cl⟩ := x
            dsimp only at s0 s1 s2 s3 hww
            generalize q.M[k].2 = vx at *
            obtain ⟨xa, xc, rfl, -, -⟩ := s3.shape
            have HBX := Lib.hid (show Below wr.heap.size wr (wr.alloc (.cells #[.int .i64 kd, .int .i64 wd, .slice xa cl.length xc] 45)) from (Below.refl _ _).alloc (Nat.le_refl _) _)
            have HC3 := Lib.hid (HC2.out.next HBX.out)
            rcases snoc_or cl with rfl | ⟨B, ⟨ct, cv⟩, rfl⟩
            · have HL2 := Lib.hid (show lastT (u.G.drop (k + 1)) e2 = lastT u.G en by rw [← HLA.out, HDR.out]; rfl)
              rw [show ([] : List Ch).length = 0 from rfl] at *
              clear s3
              go_wp2_with fail
              go_roundw
              case rel => exact ⟨k + 1, e2, hlt, by go_num, rfl, HL2.out, HC3.out⟩
              case measure => simp [intOf]; omega
            · have HL2 := Lib.hid (show lastT (u.G.drop (k + 1)) (max e2 ct) = lastT u.G en by rw [← HLA.out, HDR.out]; unfold lastT; rw [List.foldl_cons]; simp)
              obtain ⟨xb, xo, xcap, ev, -, -, hat⟩ := s3.at (by simp)
              injection ev with ev evn evc
              subst ev evc
              clear evn
              have hlB : (B ++ [(ct, cv)]).length = B.length + 1 := by simp
              have d0 : wr.cell? ⟨xb, xo + B.length * 2, none⟩ = some (.int .i64 ct) := by
                refine hat (B.length * 2) _ ?_
                have := (chs_at (B ++ [(ct, cv)]) B.length (by simp)).1
                rw [Nat.mul_comm]
                simpa using this
              rw [hlB] at hww s2 HBX HC3
              have hxb : xb < wr.heap.size := cell_lt d0
              rw [← HBX.out.cell (p := ⟨xb, xo + B.length * 2, none⟩) hxb] at d0
              clear s3 hat
              go_wp2_with fail
              go_roundw
              case rel => exact ⟨k + 1, max e2 ct, hlt, by go_num, by go_num, HL2.out, HC3.out⟩
              case measure => simp [intOf]; omega
          · obtain rfl : k = n := by omega
            have hla := HLA.out
            rw [List.drop_of_length_le (by rw [HN.out]; exact Nat.le_refl _)] at hla
            obtain rfl : e2 = lastT u.G en := hla
            have f16 := HC2.out.i.x.free (j := 16) (by simp [trC])
            have f17 := HC2.out.i.x.free (j := 17) (by simp [trC])
            have c16 := HC2.out.i.x.cell (j := 16) rfl
            have c17 := HC2.out.i.x.cell (j := 17) rfl
            have hbi := HC2.out.i
            have hF := hbi.set (j := 16) (by decide) (.slice ua acc.length uc) (u' := { u with P := acc }) (q' := { q with vp := .slice ua acc.length uc }) rfl (own_box hbi.s _ _) (own_box hbi.v _ _) (own_box hbi.g _ _) (fun x hx => (hbi.c x hx).imp id (fun h => own_box h _ _)) (own_box HC2.out.o _ _) hbi.m
            have HF := Lib.hid (hF.put (j := 17) (by decide) (.int .i64 (lastT u.G en)) (u' := { u with P := acc, en := lastT u.G en }) rfl rfl rfl rfl rfl)
            clear hbi hF
            go_wp2_with fail
            go_ret
            rw [HTF2.out]
            exact ⟨rfl, HF.out.b, fun _ => ⟨_, HF.out⟩⟩
end Go.Proofs.YtbiadennhnokhaaGreatDoor
