import Derived.Test.YtimeilkelnljnaaGreatDoorRefG0
namespace Go.Proofs.YtimeilkelnljnaaGreatDoor
open Go.RowKit

/-- wavestoreref03.Valid -/
def refOk (s : ByteArray) : Bool := match readS s with | none => false | some (neg, ds, ex) => decide (textR (stripR neg ds ex) = (s.data.toList, 0))

theorem exp_fold (l : List UInt8) : ∀ e : Int, 0 ≤ e → (∀ c ∈ l, isDig c = true) →
    0 ≤ l.foldl (fun e c => min 1048576 (10 * e + ((c.toNat : Int) - 48))) e ∧
    l.foldl (fun e c => min (10 * e + ((c.toNat : Int) - 48)) 100000) (min e 100000) = min (l.foldl (fun e c => min 1048576 (10 * e + ((c.toNat : Int) - 48))) e) 100000 := by
  induction l with
  | nil => exact fun e he _ => ⟨he, rfl⟩
  | cons c l ih =>
    intro e he h
    have hc : 48 ≤ c.toNat := by
      have := h c (List.mem_cons_self ..)
      simp [isDig] at this
      exact this.1
    obtain ⟨h1, h2⟩ := ih (min 1048576 (10 * e + ((c.toNat : Int) - 48))) (by omega) (fun d hd => h d (List.mem_cons_of_mem _ hd))
    rw [List.foldl_cons, List.foldl_cons]
    refine ⟨h1, ?_⟩
    rw [← h2]
    congr 1
    omega
theorem refExp_min (l : List UInt8) (h : ∀ c ∈ l, isDig c = true) : 0 ≤ expNum l ∧ refExp l = min (expNum l) 100000 := by
  obtain ⟨h1, h2⟩ := exp_fold l 0 (Int.le_refl _) h
  exact ⟨h1, h2⟩
theorem all_takeWhile {α : Type} (p : α → Bool) : ∀ (l : List α) (x : α), x ∈ l.take (l.takeWhile p).length → p x = true
  | [], x, h => by simp at h
  | a :: l, x, h => by
    by_cases ha : p a = true
    · rw [List.takeWhile_cons_of_pos ha, List.length_cons, List.take_succ_cons] at h
      rcases List.mem_cons.1 h with h | h
      · rw [h]; exact ha
      · exact all_takeWhile p l x h
    · rw [List.takeWhile_cons_of_neg ha] at h
      simp at h
theorem subL_dig (s : ByteArray) (k : Nat) : ∀ c ∈ subL s k (digRun s k), isDig c = true := fun c hc => all_takeWhile isDig _ c hc

def clampE (e : Int) : Int := max (-100000) (min e 100000)
theorem expS'_eq (s : ByteArray) (k : Nat) : expS' s k = (expS s k).map fun p => (clampE p.1, p.2) := by
  unfold expS' expS
  split
  · simp only
    split
    · rfl
    · obtain ⟨h0, h1⟩ := refExp_min _ (subL_dig s (expAt s (k + 1)).2)
      simp only [Option.map_some]
      rw [h1]
      unfold clampE
      refine congrArg some (Prod.ext ?_ rfl)
      simp only
      split <;> omega
  · rfl

theorem fracS_len (s : ByteArray) (k : Nat) (ds ds' : List UInt8) (ex : Int) (k' : Nat) (hs : s.size ≤ 64) (h : fracS s k ds = some (ds', ex, k')) : (ds'.length : Int) = ds.length - ex ∧ -64 ≤ ex ∧ ex ≤ 0 := by
  unfold fracS at h
  split at h
  · rename_i hp
    split at h
    · cases h
    · have hk : k < s.size := by
        rcases Nat.lt_or_ge k s.size with h' | h'
        · exact h'
        · unfold oneHit at hp
          rw [List.getElem?_eq_none (by simpa using h')] at hp
          cases hp
      have hle := digRun_le s (k + 1) (by omega)
      injection h with h
      injection h with h1 h2
      injection h2 with h2 h3
      have hsz : s.data.toList.length = s.size := by simp
      have hl : (subL s (k + 1) (digRun s (k + 1))).length = digRun s (k + 1) := by
        unfold subL
        rw [List.length_take, List.length_drop]; omega
      rw [← h1, ← h2, List.length_append, hl]
      omega
  · injection h with h
    injection h with h1 h2
    injection h2 with h2 h3
    rw [← h1, ← h2]
    omega

theorem text_same (neg : Bool) (ds : List UInt8) (n : Nat) (ex e : Int) (hl : (ds.length : Int) = n - ex) (h0 : -64 ≤ ex) (h1 : ex ≤ 0) (hn : n ≤ 64) :
    textR (stripR neg ds ((n : Int) - 1 + clampE e)) = numText (numTrim (neg, ds, ex + e)) := by
  have h2 := dropW_le 48 ds
  unfold stripR numTrim
  simp only
  generalize ds.dropWhile (· == 48) = d1 at h2 ⊢
  have h3 := trimR_le 48 d1
  generalize trimR 48 d1 = d2 at h3 ⊢
  by_cases hd : d2 = []
  · rw [if_pos hd, if_pos hd]; rfl
  · rw [if_neg hd, if_neg hd]
    unfold textR numText
    simp only
    rw [if_neg hd, if_neg hd]
    have e1 : ex + e + ((d1.length : Int) - d2.length) + d2.length - 1 = ex + e + d1.length - 1 := by omega
    rw [e1]
    unfold clampE
    by_cases hb : e < -100000 ∨ 100000 < e
    · rw [if_pos (by omega), if_pos (by omega)]
    · rw [show (n : Int) - 1 + max (-100000) (min e 100000) - ((ds.length : Int) - d1.length) = ex + e + d1.length - 1 by omega]

theorem refOk_eq (s : ByteArray) : refOk s = decOk s := by
  unfold refOk decOk readS scanS
  by_cases hs : 64 < s.size
  · rw [if_pos hs, if_pos hs]
  rw [if_neg hs, if_neg hs]
  simp only
  by_cases hn : digRun s (signS s).2 = 0
  · rw [if_pos hn, if_pos hn]
  rw [if_neg hn, if_neg hn]
  cases hf : fracS s ((signS s).2 + digRun s (signS s).2) (subL s (signS s).2 (digRun s (signS s).2)) with
  | none => rfl
  | some p =>
    obtain ⟨ds, ex, k⟩ := p
    obtain ⟨h1, h2, h3⟩ := fracS_len s _ _ _ _ _ (by omega) hf
    have hle : digRun s (signS s).2 ≤ s.size := by
      have := List.Sublist.length_le (List.takeWhile_sublist (l := s.data.toList.drop (signS s).2) isDig)
      have hsz : s.data.toList.length = s.size := by simp
      rw [List.length_drop] at this
      unfold digRun; omega
    have hl : (subL s (signS s).2 (digRun s (signS s).2)).length = digRun s (signS s).2 := by
      have := List.Sublist.length_le (List.takeWhile_sublist (l := s.data.toList.drop (signS s).2) isDig)
      unfold subL digRun at *
      rw [List.length_take]; omega
    rw [hl] at h1
    simp only
    rw [expS'_eq]
    cases expS s k with
    | none => rfl
    | some q =>
      obtain ⟨e, k'⟩ := q
      simp only [Option.map_some]
      by_cases hk : k' = s.size
      · rw [if_pos hk, if_pos hk]
        simp only
        rw [text_same _ _ _ _ _ h1 h2 h3 (by omega)]
      · rw [if_neg hk, if_neg hk]
end Go.Proofs.YtimeilkelnljnaaGreatDoor
