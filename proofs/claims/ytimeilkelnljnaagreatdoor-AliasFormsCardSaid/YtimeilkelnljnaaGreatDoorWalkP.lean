import Derived.Test.YtimeilkelnljnaaGreatDoorSig6
namespace Go.Proofs.YtimeilkelnljnaaGreatDoor
open Go.RowKit

theorem lo_eq {l : List Ch} {t : Int} (hs : Sorted l) {j : Nat} (hj : j ≤ l.length) (h : ∀ i (hi : i < l.length), l[i].1 < t ↔ i < j) : lo l t = j := by
  have h1 := lo_le l t
  rcases Nat.lt_trichotomy (lo l t) j with h2 | h2 | h2
  · have := (lo_lt l t hs (lo l t) (by omega)).1 ((h _ (by omega)).2 h2)
    omega
  · exact h2
  · have := (h j (by omega)).1 ((lo_lt l t hs j (by omega)).2 h2)
    omega

/-- the time behind which the next change is the j-th -/
def tmN (l : List Ch) (j : Nat) : Int := if j = 0 then -1 else (l.getD (j - 1) (0, ⟨#[]⟩)).1
/-- the time before which there are j changes -/
def tmP (l : List Ch) (j : Nat) : Int := match l[j]? with | none => 1099511627777 | some c => c.1
theorem tmN_succ (l : List Ch) (j : Nat) (h : j < l.length) : tmN l (j + 1) = l[j].1 := by simp [tmN, List.getD, List.getElem?_eq_getElem h]
theorem tmP_at (l : List Ch) (j : Nat) (h : j < l.length) : tmP l j = l[j].1 := by simp [tmP, List.getElem?_eq_getElem h]
theorem tmP_end (l : List Ch) : tmP l l.length = 1099511627777 := by simp [tmP]

theorem nextR_at {k n : Int} {l : List Ch} (h : sv k n l = true) {j : Nat} (hj : j ≤ l.length) : nextR k n l (tmN l j) = chR l j := by
  obtain ⟨hs, -, -, hb⟩ := sv_sorted h
  have hlo : lo l (tmN l j + 1) = j := by
    apply lo_eq hs hj
    intro i hi
    cases j with
    | zero => have := hb i hi; simp only [tmN, if_pos]; omega
    | succ j =>
      rw [tmN_succ l j (by omega)]
      rcases Nat.lt_trichotomy i j with h1 | h1 | h1
      · have := hs i j hi (by omega) h1; omega
      · subst h1; omega
      · have := hs j i (by omega) hi h1; omega
  have hr : ¬ (tmN l j < -1 ∨ 1099511627776 < tmN l j) := by
    cases j with
    | zero => simp [tmN]
    | succ j => rw [tmN_succ l j (by omega)]; have := hb j (by omega); omega
  unfold nextR
  rw [if_neg (by rw [h]; simp), if_neg hr, hlo]

theorem prevR_at {k n : Int} {l : List Ch} (h : sv k n l = true) {j : Nat} (hj : j ≤ l.length) : prevR k n l (tmP l j) = chR l ((j : Int) - 1) := by
  obtain ⟨hs, -, -, hb⟩ := sv_sorted h
  have hlo : lo l (tmP l j) = j := by
    apply lo_eq hs hj
    intro i hi
    by_cases he : j < l.length
    · rw [tmP_at l j he]
      rcases Nat.lt_trichotomy i j with h1 | h1 | h1
      · have := hs i j hi (by omega) h1; omega
      · subst h1; omega
      · have := hs j i (by omega) hi h1; omega
    · obtain rfl : j = l.length := by omega
      rw [tmP_end]
      have := hb i hi
      omega
  have hr : ¬ (tmP l j < 0 ∨ 1099511627777 < tmP l j) := by
    by_cases he : j < l.length
    · rw [tmP_at l j he]; have := hb j he; omega
    · obtain rfl : j = l.length := by omega
      rw [tmP_end]; omega
  unfold prevR
  rw [if_neg (by rw [h]; simp), if_neg hr, hlo]

theorem chR_at (l : List Ch) (j : Nat) (h : j < l.length) : chR l j = (l[j], 0) := by
  unfold chR
  rw [if_neg (by omega), Int.toNat_natCast, List.getElem?_eq_getElem h]
theorem chR_end (l : List Ch) : chR l l.length = ((0, ⟨#[]⟩), 6) := by
  unfold chR
  rw [if_neg (by omega), Int.toNat_natCast, List.getElem?_eq_none (Nat.le_refl _)]
theorem chR_neg (l : List Ch) : chR l (((0 : Nat) : Int) - 1) = ((0, ⟨#[]⟩), 6) := by
  unfold chR
  rw [if_pos (by omega)]
theorem chR_pred (l : List Ch) (j : Nat) (h : j < l.length) : chR l (((j + 1 : Nat) : Int) - 1) = (l[j], 0) := by
  rw [show (((j + 1 : Nat) : Int) - 1) = (j : Int) by omega]
  exact chR_at l j h

theorem winR_all {k n : Int} {l : List Ch} (h : sv k n l = true) : winR k n l 0 1099511627776 = l := by
  obtain ⟨hs, -, -, hb⟩ := sv_sorted h
  have h0 : lo l 0 = 0 := lo_eq hs (Nat.zero_le _) (fun i hi => by have := hb i hi; omega)
  have h1 : lo l (min 1099511627776 1099511627776 + 1) = l.length := lo_eq hs (Nat.le_refl _) (fun i hi => by have := hb i hi; omega)
  unfold winR
  rw [if_neg (by rw [h]; simp), if_neg (by omega), h0, h1]
  simp
end Go.Proofs.YtimeilkelnljnaaGreatDoor
