import Derived.Test.YtimeilkelnljnaaGreatDoorWalkP
import Derived.Test.YtimeilkelnljnaaGreatDoorSig9
namespace Go.Proofs.YtimeilkelnljnaaGreatDoor
/- Plain laws of signals: the value at a time, normalized changes. No program in sight. -/

/-- the value at a time, read from the front -/
def val (v : ByteArray) : List Ch → Int → ByteArray
  | [], _ => v
  | c :: l, t => val (if c.1 ≤ t then c.2 else v) l t
theorem val_cons (v : ByteArray) (c : Ch) (l : List Ch) (t : Int) : val v (c :: l) t = val (if c.1 ≤ t then c.2 else v) l t := rfl
theorem val_append (t : Int) : ∀ (l m : List Ch) (v : ByteArray), val v (l ++ m) t = val (val v l t) m t
  | [], _, _ => rfl
  | _ :: l, m, _ => val_append t l m _

/-- times that do not decrease, from a on -/
def NonDec (a : Int) : List Ch → Prop
  | [] => True
  | c :: l => a ≤ c.1 ∧ NonDec c.1 l
theorem NonDec.mono {a b : Int} (h : b ≤ a) : ∀ {l : List Ch}, NonDec a l → NonDec b l
  | [], _ => trivial
  | _ :: _, ⟨h1, h2⟩ => ⟨by omega, h2⟩
theorem NonDec.mem {a : Int} : ∀ {l : List Ch}, NonDec a l → ∀ c ∈ l, a ≤ c.1
  | [], _, c, h => by cases h
  | d :: l, ⟨h1, h2⟩, c, h => by
    rcases List.mem_cons.1 h with rfl | h
    · exact h1
    · exact Int.le_trans h1 (NonDec.mem h2 c h)
theorem NonDec.sub {m : List Ch} : ∀ {l : List Ch} {a : Int}, List.Sublist m l → NonDec a l → NonDec a m := by
  intro l a hs
  induction hs generalizing a with
  | slnil => intro _; trivial
  | cons x _ ih => intro h; exact (ih h.2).mono h.1
  | cons_cons x _ ih => intro h; exact ⟨h.1, ih h.2⟩
theorem NonDec.append {a b : Int} : ∀ {l m : List Ch}, NonDec a l → (∀ c ∈ l, c.1 ≤ b) → a ≤ b → NonDec b m → NonDec a (l ++ m)
  | [], _, _, _, hab, hm => hm.mono hab
  | c :: _, _, ⟨h1, h2⟩, hl, _, hm => ⟨h1, NonDec.append h2 (fun d hd => hl d (List.mem_cons_of_mem _ hd)) (hl c List.mem_cons_self) hm⟩

theorem val_late {v : ByteArray} {t : Int} : ∀ {l : List Ch} {a : Int}, NonDec a l → t < a → val v l t = v
  | [], _, _, _ => rfl
  | c :: l, a, ⟨h1, h2⟩, h => by
    rw [val_cons, if_neg (by omega)]
    exact val_late h2 (by omega)
theorem val_all {t t' : Int} : ∀ {l : List Ch} (v : ByteArray), (∀ c ∈ l, c.1 ≤ t) → t ≤ t' → val v l t' = val v l t
  | [], _, _, _ => rfl
  | c :: l, v, h, ht => by
    have h1 := h c List.mem_cons_self
    rw [val_cons, val_cons, if_pos h1, if_pos (by omega)]
    exact val_all _ (fun d hd => h d (List.mem_cons_of_mem _ hd)) ht
theorem val_mem {t : Int} (P : ByteArray → Prop) : ∀ {l : List Ch} {v : ByteArray}, P v → (∀ c ∈ l, P c.2) → P (val v l t)
  | [], _, hv, _ => hv
  | c :: l, v, hv, h => by
    rw [val_cons]
    refine val_mem P ?_ (fun d hd => h d (List.mem_cons_of_mem _ hd))
    split
    · exact h c List.mem_cons_self
    · exact hv

theorem normGo_sub (k : Int) : ∀ (l : List Ch) (v : ByteArray), (normGo k v l).Sublist l
  | [], _ => List.Sublist.refl _
  | c :: l, v => by
    unfold normGo
    split
    · exact (normGo_sub k l v).cons _
    · exact (normGo_sub k l c.2).cons_cons _
theorem normGo_nonDec {k a : Int} {v : ByteArray} {l : List Ch} (h : NonDec a l) : NonDec a (normGo k v l) := h.sub (normGo_sub k l v)

theorem val_normGo (k : Int) (t : Int) : ∀ (l : List Ch) (v : ByteArray) (a : Int), NonDec a l → val v (normGo k v l) t = val v l t
  | [], _, _, _ => rfl
  | c :: l, v, a, ⟨h1, h2⟩ => by
    unfold normGo
    split
    · rename_i hc
      rw [val_normGo k t l v c.1 h2, val_cons]
      rcases hc with ⟨d, hd, he⟩ | ⟨-, he⟩
      · cases l with
        | nil => simp at hd
        | cons d' l =>
          simp at hd
          subst hd
          rw [val_cons, val_cons, he]
          split <;> rfl
      · rw [he]; simp
    · rw [val_cons, val_cons]
      by_cases ht : c.1 ≤ t
      · rw [if_pos ht]; exact val_normGo k t l c.2 c.1 h2
      · rw [if_neg ht, val_late h2 (by omega), val_late (normGo_nonDec h2) (by omega)]

theorem svGo_cons (k n a : Int) (v : ByteArray) (c : Ch) (l : List Ch) : svGo k n a v (c :: l) = true ↔ a < c.1 ∧ c.1 ≤ 1099511627776 ∧ vv k n c.2 = true ∧ (k ≠ 3 → c.2 ≠ v) ∧ svGo k n c.1 c.2 l = true := by
  rw [svGo]
  split
  · rename_i h; exact ⟨fun h => by (cases h), fun h' => by omega⟩
  · rename_i h1
    split
    · rename_i h2; exact ⟨fun h => by (cases h), fun h' => by rw [h'.2.2.1] at h2; cases h2⟩
    · rename_i h2
      split
      · rename_i h3; exact ⟨fun h => by (cases h), fun h' => absurd h3.2 (h'.2.2.2.1 h3.1)⟩
      · rename_i h3
        exact ⟨fun h => ⟨by omega, by omega, by simpa using h2, fun hk he => h3 ⟨hk, he⟩, h⟩, fun h => h.2.2.2.2⟩

theorem svGo_nonDec {k n : Int} : ∀ {l : List Ch} {a : Int} {v : ByteArray}, svGo k n a v l = true → NonDec (a + 1) l
  | [], _, _, _ => trivial
  | c :: l, a, v, h => by
    obtain ⟨h1, -, -, -, h5⟩ := (svGo_cons ..).1 h
    exact ⟨by omega, (svGo_nonDec h5).mono (by omega)⟩
theorem svGo_mem {k n : Int} : ∀ {l : List Ch} {a : Int} {v : ByteArray}, svGo k n a v l = true → ∀ c ∈ l, a < c.1 ∧ c.1 ≤ 1099511627776 ∧ vv k n c.2 = true
  | [], _, _, _, c, h => by cases h
  | d :: l, a, v, h, c, hc => by
    obtain ⟨h1, h2, h3, -, h5⟩ := (svGo_cons ..).1 h
    rcases List.mem_cons.1 hc with rfl | hc
    · exact ⟨h1, h2, h3⟩
    · have := svGo_mem h5 c hc
      exact ⟨by omega, this.2⟩

theorem svGo_normGo (k n : Int) : ∀ (l : List Ch) (v : ByteArray) (a : Int), NonDec (a + 1) l → (∀ c ∈ l, c.1 ≤ 1099511627776 ∧ vv k n c.2 = true) → svGo k n a v (normGo k v l) = true
  | [], _, _, _, _ => rfl
  | c :: l, v, a, ⟨h1, h2⟩, h => by
    unfold normGo
    split
    · exact svGo_normGo k n l v a (h2.mono h1) (fun d hd => h d (List.mem_cons_of_mem _ hd))
    · rename_i hc
      obtain ⟨h3, h4⟩ := h c List.mem_cons_self
      refine (svGo_cons ..).2 ⟨by omega, h3, h4, fun hk he => hc (.inr ⟨hk, he⟩), svGo_normGo k n l c.2 c.1 ?_ (fun d hd => h d (List.mem_cons_of_mem _ hd))⟩
      cases l with
      | nil => trivial
      | cons d l =>
        have hne : d.1 ≠ c.1 := fun he => hc (.inl ⟨d, by simp, he⟩)
        exact ⟨by have := h2.1; omega, h2.2⟩

theorem normGo_id {k n : Int} : ∀ {l : List Ch} {v : ByteArray} {a : Int}, svGo k n a v l = true → normGo k v l = l
  | [], _, _, _ => rfl
  | c :: l, v, a, h => by
    obtain ⟨h1, h2, h3, h4, h5⟩ := (svGo_cons ..).1 h
    unfold normGo
    rw [if_neg, normGo_id h5]
    rintro (⟨d, hd, he⟩ | ⟨hk, he⟩)
    · cases l with
      | nil => simp at hd
      | cons d' l =>
        simp at hd
        subst hd
        have := ((svGo_cons ..).1 h5).1
        omega
    · exact h4 hk he

theorem nzGo_zero {k n : Int} : ∀ {l : List Ch} {a : Int}, nzGo k n a l = 0 ↔ NonDec a l ∧ ∀ c ∈ l, c.1 ≤ 1099511627776 ∧ vv k n c.2 = true
  | [], _ => ⟨fun _ => ⟨trivial, fun c h => by cases h⟩, fun _ => rfl⟩
  | c :: l, a => by
    rw [nzGo]
    split
    · rename_i h1
      refine ⟨fun h => absurd h (by decide), fun ⟨h2, h3⟩ => ?_⟩
      have := h2.1
      have := (h3 c List.mem_cons_self).1
      omega
    · rename_i h1
      split
      · rename_i h2
        refine ⟨fun h => absurd h (by decide), fun ⟨_, h3⟩ => ?_⟩
        have := (h3 c List.mem_cons_self).2
        rw [this] at h2; cases h2
      · rename_i h2
        rw [nzGo_zero]
        refine ⟨fun ⟨h3, h4⟩ => ⟨⟨by omega, h3⟩, fun d hd => ?_⟩, fun ⟨h3, h4⟩ => ⟨h3.2, fun d hd => h4 d (List.mem_cons_of_mem _ hd)⟩⟩
        rcases List.mem_cons.1 hd with rfl | hd
        · exact ⟨by omega, by simpa using h2⟩
        · exact h4 d hd

/-- a signal is known by its values -/
theorem svGo_unique {k n : Int} (hk : k ≠ 3) : ∀ (l m : List Ch) (a : Int) (v : ByteArray), svGo k n a v l = true → svGo k n a v m = true → (∀ t, a < t → t ≤ 1099511627776 → val v l t = val v m t) → l = m
  | [], [], _, _, _, _, _ => rfl
  | [], d :: m, a, v, _, h, hv => by
    obtain ⟨h1, h2, h3, h4, h5⟩ := (svGo_cons ..).1 h
    have := hv d.1 h1 h2
    rw [val_cons, if_pos (Int.le_refl _), val_late (svGo_nonDec h5) (by omega)] at this
    exact absurd this.symm (h4 hk)
  | c :: l, [], a, v, h, _, hv => by
    obtain ⟨h1, h2, h3, h4, h5⟩ := (svGo_cons ..).1 h
    have := hv c.1 h1 h2
    rw [val_cons, if_pos (Int.le_refl _), val_late (svGo_nonDec h5) (by omega)] at this
    exact absurd this (h4 hk)
  | c :: l, d :: m, a, v, h, h', hv => by
    obtain ⟨h1, h2, h3, h4, h5⟩ := (svGo_cons ..).1 h
    obtain ⟨g1, g2, g3, g4, g5⟩ := (svGo_cons ..).1 h'
    have e1 := hv c.1 h1 h2
    have e2 := hv d.1 g1 g2
    rw [val_cons, val_cons, if_pos (Int.le_refl _), val_late (svGo_nonDec h5) (by omega)] at e1
    rw [val_cons, val_cons, if_pos (Int.le_refl _), val_late (v := d.2) (svGo_nonDec g5) (by omega)] at e2
    rcases Int.lt_trichotomy c.1 d.1 with hlt | heq | hgt
    · rw [if_neg (by omega), val_late (svGo_nonDec g5) (by omega)] at e1
      exact absurd e1 (h4 hk)
    · rw [if_pos (by omega), val_late (svGo_nonDec g5) (by omega)] at e1
      have hcd : c = d := Prod.ext heq e1
      subst hcd
      congr 1
      refine svGo_unique hk l m c.1 c.2 h5 g5 (fun t ht ht2 => ?_)
      have := hv t (by omega) ht2
      rwa [val_cons, val_cons, if_pos (by omega)] at this
    · rw [if_neg (by omega), val_late (svGo_nonDec h5) (by omega)] at e2
      exact absurd e2.symm (g4 hk)

theorem sv_iff {k n : Int} {l : List Ch} : sv k n l = true ↔ vt k n = true ∧ l.length ≤ 4096 ∧ svGo k n (-1) (vi k n) l = true := by
  unfold sv
  rw [Bool.and_eq_true, Bool.and_eq_true, decide_eq_true_iff, and_assoc]
theorem sv_unique {k n : Int} (hk : k ≠ 3) {l m : List Ch} (h : sv k n l = true) (h' : sv k n m = true) (hv : ∀ t, 0 ≤ t → t ≤ 1099511627776 → val (vi k n) l t = val (vi k n) m t) : l = m :=
  svGo_unique hk l m (-1) (vi k n) (sv_iff.1 h).2.2 (sv_iff.1 h').2.2 (fun t h1 h2 => hv t (by omega) h2)
theorem sv_nonDec {k n : Int} {l : List Ch} (h : sv k n l = true) : NonDec 0 l := svGo_nonDec (sv_iff.1 h).2.2
theorem sv_mem {k n : Int} {l : List Ch} (h : sv k n l = true) : ∀ c ∈ l, 0 ≤ c.1 ∧ c.1 ≤ 1099511627776 ∧ vv k n c.2 = true := fun c hc => by
  have := svGo_mem (sv_iff.1 h).2.2 c hc
  exact ⟨by omega, this.2⟩
theorem sv_norm {k n : Int} {l : List Ch} (h : sv k n l = true) : normS k n l = l := normGo_id (sv_iff.1 h).2.2
/-- what normalizes to a valid signal -/
def Nrm (k n : Int) (l : List Ch) : Prop := vt k n = true ∧ l.length ≤ 4096 ∧ NonDec 0 l ∧ ∀ c ∈ l, c.1 ≤ 1099511627776 ∧ vv k n c.2 = true
theorem Nrm.made {k n : Int} {l : List Ch} (h : Nrm k n l) : madeR k n l = ((k, n, normS k n l), 0) := by
  unfold madeR
  have := normGo_len k l (vi k n)
  have := h.2.1
  rw [if_neg (by unfold normS; omega)]
theorem Nrm.sv {k n : Int} {l : List Ch} (h : Nrm k n l) : sv k n (normS k n l) = true :=
  sv_iff.2 ⟨h.1, by have := normGo_len k l (vi k n); have := h.2.1; unfold normS; omega, svGo_normGo k n l _ _ h.2.2.1 h.2.2.2⟩
theorem Nrm.val {k n : Int} {l : List Ch} (h : Nrm k n l) (t : Int) : val (vi k n) (normS k n l) t = val (vi k n) l t := val_normGo k t l _ 0 h.2.2.1
theorem sv_Nrm {k n : Int} {l : List Ch} (h : Go.Proofs.YtimeilkelnljnaaGreatDoor.sv k n l = true) : Nrm k n l := ⟨(sv_iff.1 h).1, (sv_iff.1 h).2.1, sv_nonDec h, fun c hc => (sv_mem h c hc).2⟩

theorem lo_cons_lt {c : Ch} {l : List Ch} {t : Int} (h : c.1 < t) : lo (c :: l) t = lo l t + 1 := by
  unfold lo; rw [List.takeWhile_cons_of_pos (by simpa using h)]; rfl
theorem lo_cons_ge {c : Ch} {l : List Ch} {t : Int} (h : t ≤ c.1) : lo (c :: l) t = 0 := by
  unfold lo; rw [List.takeWhile_cons_of_neg (by simp; omega)]; rfl
theorem valAt_go (t : Int) : ∀ (l : List Ch) (v : ByteArray) (a : Int), NonDec a l → (match lo l (t + 1) with | 0 => v | j + 1 => (l.getD j (0, ⟨#[]⟩)).2) = val v l t
  | [], v, a, _ => rfl
  | c :: l, v, a, ⟨h1, h2⟩ => by
    by_cases hc : c.1 ≤ t
    · rw [lo_cons_lt (by omega), val_cons, if_pos hc, ← valAt_go t l c.2 c.1 h2]
      cases lo l (t + 1) with
      | zero => rfl
      | succ j => rfl
    · rw [lo_cons_ge (by omega), val_cons, if_neg hc, val_late h2 (by omega)]
theorem vv3 {n : Int} {s : ByteArray} (h : vv 3 n s = true) : s = ⟨#[]⟩ := by
  unfold vv at h
  have : nilB s = true := by
    revert h
    simp
  unfold nilB at this
  have h0 : s.size = 0 := by simpa using this
  obtain ⟨a⟩ := s
  have : a = #[] := Array.eq_empty_of_size_eq_zero h0
  rw [this]
theorem vi3 {n : Int} : vi 3 n = ⟨#[]⟩ := by unfold vi; simp
theorem valAt_eq {k n : Int} {l : List Ch} (h : sv k n l = true) (t : Int) : valAt k n l t = val (vi k n) l t := by
  unfold valAt
  split
  · rename_i hk
    subst hk
    have := val_mem (t := t) (fun s => s = ⟨#[]⟩) (l := l) (v := vi 3 n) vi3 (fun c hc => vv3 (sv_mem h c hc).2.2)
    rw [this, vi3]
  · exact valAt_go t l _ 0 (sv_nonDec h)
theorem atR_eq {k n : Int} {l : List Ch} (h : sv k n l = true) {t : Int} (h0 : 0 ≤ t) (h1 : t ≤ 1099511627776) : atR k n l t = (val (vi k n) l t, 0) := by
  unfold atR
  rw [if_neg (by rw [h]; simp), if_neg (by omega), valAt_eq h]

/-- is there a change at a time -/
def hasT (l : List Ch) (t : Int) : Bool := l.any fun c => c.1 == t
theorem hasT_cons (c : Ch) (l : List Ch) (t : Int) : hasT (c :: l) t = (c.1 == t || hasT l t) := rfl
theorem hasT_late {t : Int} {l : List Ch} {a : Int} (h : NonDec a l) (ht : t < a) : hasT l t = false := by
  unfold hasT
  rw [List.any_eq_false]
  intro c hc
  have := h.mem c hc
  simp; omega
theorem lo_late {t : Int} {l : List Ch} {a : Int} (h : NonDec a l) (ht : t ≤ a) : lo l t = 0 := by
  cases l with
  | nil => rfl
  | cons c l => exact lo_cons_ge (by have := h.1; omega)
theorem lo_two {k n t : Int} : ∀ (l : List Ch) (a : Int) (v : ByteArray), svGo k n a v l = true → lo l (t + 1) = lo l t + (if hasT l t = true then 1 else 0)
  | [], _, _, _ => rfl
  | c :: l, a, v, h => by
    obtain ⟨h1, h2, h3, h4, h5⟩ := (svGo_cons ..).1 h
    have hnd := svGo_nonDec h5
    rw [hasT_cons]
    rcases Int.lt_trichotomy c.1 t with hlt | heq | hgt
    · rw [lo_cons_lt hlt, lo_cons_lt (by omega), lo_two l c.1 c.2 h5, show (c.1 == t) = false by rw [beq_eq_false_iff_ne]; omega, Bool.false_or]
      omega
    · rw [lo_cons_lt (by omega), lo_cons_ge (by omega), lo_late hnd (by omega), show (c.1 == t) = true by rw [beq_iff_eq]; omega, Bool.true_or, if_pos rfl]
    · rw [lo_cons_ge (by omega), lo_cons_ge (by omega), show (c.1 == t) = false by rw [beq_eq_false_iff_ne]; omega, Bool.false_or, hasT_late hnd (by omega)]
      rfl
theorem winR_one {k n : Int} {l : List Ch} (h : sv k n l = true) {t : Int} (h1 : t ≤ 1099511627776) : (winR k n l t t).length = if hasT l t = true then 1 else 0 := by
  unfold winR
  rw [if_neg (by rw [h]; simp), if_neg (by omega), List.length_drop, List.length_take, show min t 1099511627776 = t by omega]
  have h2 := lo_two (t := t) l _ _ (sv_iff.1 h).2.2
  have h3 := lo_le l (t + 1)
  omega
theorem hasT_norm3 {n t : Int} : ∀ (l : List Ch) (v : ByteArray), hasT (normGo 3 v l) t = hasT l t
  | [], _ => rfl
  | c :: l, v => by
    unfold normGo
    split
    · rename_i hc
      rw [hasT_norm3 (n := n) l v, hasT_cons]
      rcases hc with ⟨d, hd, he⟩ | ⟨hk, -⟩
      · cases l with
        | nil => simp at hd
        | cons d' l =>
          simp at hd
          subst hd
          rw [hasT_cons, he]
          cases (c.1 == t) <;> rfl
      · exact absurd rfl hk
    · rw [hasT_cons, hasT_cons, hasT_norm3 (n := n) l c.2]
end Go.Proofs.YtimeilkelnljnaaGreatDoor
