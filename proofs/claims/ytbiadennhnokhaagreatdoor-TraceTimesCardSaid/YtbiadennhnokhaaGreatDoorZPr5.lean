/- Plain: inserting into increasing numbers, and a trace that was changed everywhere. -/
import Derived.Test.YtbiadennhnokhaaGreatDoorZ37
import Derived.Test.YtbiadennhnokhaaGreatDoorZ14
namespace Go.Proofs.YtbiadennhnokhaaGreatDoor

theorem insT_at : ∀ (A D : List Int) (n : Int), (∀ x ∈ A, x < n) → (∀ x ∈ D, n ≤ x) → insT (A ++ D) n = (match D with
  | [] => A ++ [n]
  | d :: _ => if d = n then A ++ D else A ++ n :: D)
  | [], [], n, _, _ => rfl
  | [], d :: D, n, _, hD => by
    have := hD d (by simp)
    show (if n < d then n :: d :: D else if n = d then d :: D else d :: insT D n) = _
    dsimp only
    by_cases h : d = n
    · rw [if_neg (by omega), if_pos (by omega), if_pos h]; rfl
    · rw [if_pos (by omega), if_neg h]; rfl
  | a :: A, D, n, hA, hD => by
    have := hA a (by simp)
    show (if n < a then n :: a :: (A ++ D) else if n = a then a :: (A ++ D) else a :: insT (A ++ D) n) = _
    rw [if_neg (by omega), if_neg (by omega), insT_at A D n (fun x hx => hA x (by simp [hx])) hD]
    cases D with
    | nil => rfl
    | cons d D =>
      dsimp only
      by_cases h : d = n
      · rw [if_pos h, if_pos h]; rfl
      · rw [if_neg h, if_neg h]; rfl
/-- the place: what is before is less, what is behind is not -/
theorem insT_take {l : List Int} (hl : l.Pairwise (· < ·)) {n : Int} {k : Nat} (hk : k ≤ l.length) (h1 : ∀ h : 0 < k, l[k - 1]'(by omega) < n) (h2 : ∀ h : k < l.length, n ≤ l[k]) :
    insT l n = if k < l.length ∧ l.getD k 0 = n then l else l.take k ++ n :: l.drop k := by
  have hA : ∀ x ∈ l.take k, x < n := fun x hx => by
    obtain ⟨i, hi, rfl⟩ := List.mem_iff_getElem.1 hx
    rw [List.length_take] at hi
    rw [List.getElem_take]
    have h0 := h1 (by omega)
    rcases Nat.lt_or_ge i (k - 1) with h | h
    · have := List.pairwise_iff_getElem.1 hl i (k - 1) (by omega) (by omega) h
      omega
    · have : i = k - 1 := by omega
      subst this
      exact h0
  have hD : ∀ x ∈ l.drop k, n ≤ x := fun x hx => by
    obtain ⟨i, hi, rfl⟩ := List.mem_iff_getElem.1 hx
    rw [List.length_drop] at hi
    rw [List.getElem_drop]
    have h0 := h2 (by omega)
    rcases Nat.eq_or_lt_of_le (Nat.zero_le i) with h | h
    · subst h; exact h0
    · have := List.pairwise_iff_getElem.1 hl k (k + i) (by omega) (by omega) (by omega)
      omega
  have := insT_at (l.take k) (l.drop k) n hA hD
  rw [List.take_append_drop] at this
  rw [this]
  by_cases hkl : k < l.length
  · rw [List.drop_eq_getElem_cons hkl]
    dsimp only
    have e : l.getD k 0 = l[k] := by simp [List.getD, List.getElem?_eq_getElem hkl]
    rw [e]
    by_cases h : l[k] = n
    · rw [if_pos h, if_pos ⟨hkl, h⟩]
    · rw [if_neg h, if_neg (fun h' => h h'.2)]
  · rw [if_neg (fun h' => hkl h'.1), List.drop_eq_nil_of_le (by omega)]
/-- what differs in all of its parts -/
structure Changed (t u : Tr) : Prop where
  g : ∀ i (h : i < t.G.length) (h' : i < u.G.length), u.G[i].1 ≠ t.G[i].1
  s : ∀ i (h : i < t.S.length) (h' : i < u.S.length), u.S[i] ≠ t.S[i]
  v : ∀ i (h : i < t.V.length) (h' : i < u.V.length), u.V[i] ≠ t.V[i]
  p : ∀ i (h : i < t.P.length) (h' : i < u.P.length), u.P[i] ≠ t.P[i]
theorem Changed.ne {t u : Tr} (h : Changed t u) (hn : t.G.length + t.S.length + t.V.length + t.P.length ≠ 0) : eqT u t = false := by
  rw [← Bool.not_eq_true, eqT_iff]
  rintro rfl
  have h1 : ¬ 0 < u.G.length := fun h0 => h.g 0 h0 h0 rfl
  have h2 : ¬ 0 < u.S.length := fun h0 => h.s 0 h0 h0 rfl
  have h3 : ¬ 0 < u.V.length := fun h0 => h.v 0 h0 h0 rfl
  have h4 : ¬ 0 < u.P.length := fun h0 => h.p 0 h0 h0 rfl
  omega
end Go.Proofs.YtbiadennhnokhaaGreatDoor
