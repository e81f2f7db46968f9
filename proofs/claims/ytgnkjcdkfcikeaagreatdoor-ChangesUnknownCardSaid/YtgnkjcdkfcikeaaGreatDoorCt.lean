/- Plain: strconv.Atoi and the digits of a time. -/
import Derived.Test.YtgnkjcdkfcikeaaGreatDoorCp2
import Derived.Lib.AtoiAll
import Derived.Lib.IndexAny
namespace Go.Proofs.YtgnkjcdkfcikeaaGreatDoor

theorem any_index (chars : Bs) : ∀ l : Bs, Lib.containsAny l chars = l.any fun b => chars.contains b
  | [] => by unfold Lib.containsAny Lib.indexAny; rfl
  | b :: l => by
    have ih := any_index chars l
    unfold Lib.containsAny at ih ⊢
    have hge := Lib.indexAny_ge chars l
    rw [List.any_cons, ← ih, Lib.indexAny]
    cases chars.contains b with
    | true => simp
    | false =>
      simp only [Bool.false_eq_true, if_false, Bool.false_or]
      by_cases h : Lib.indexAny l chars = -1
      · rw [h]; simp
      · rw [if_neg (by simpa using h), decide_eq_true (by omega), decide_eq_true (by omega)]
def decA (n : Nat) (l : Bs) : Nat := l.foldl (fun n c => 10 * n + (c.toNat - 48)) n
theorem isD_iff (c : UInt8) : isD c = true ↔ 48 ≤ c.toNat ∧ c.toNat ≤ 57 := by
  unfold isD
  rw [Bool.and_eq_true, decide_eq_true_iff, decide_eq_true_iff]
theorem pu_ok : ∀ (l : Bs) (a u : Nat), Lib.parseUint10 a l = .ok u → l.all isD = true ∧ u = decA a l
  | [], a, u, h => by
    simp only [Lib.parseUint10] at h
    injection h with h
    exact ⟨rfl, h.symm⟩
  | c :: r, a, u, h => by
    simp only [Lib.parseUint10] at h
    split at h
    · rename_i hc
      split at h
      · cases h
      · split at h
        · cases h
        · obtain ⟨h1, h2⟩ := pu_ok r _ u h
          refine ⟨by rw [List.all_cons, (isD_iff c).2 hc, h1]; rfl, ?_⟩
          rw [h2]
          unfold decA
          rw [List.foldl_cons, Nat.mul_comm]
    · cases h
theorem pu_dig : ∀ (l : Bs) (a : Nat), l.all isD = true → (a + 1) * 10 ^ l.length ≤ 1000000000000000 → Lib.parseUint10 a l = .ok (decA a l) ∧ decA a l < 1000000000000000
  | [], a, _, h => ⟨rfl, by simp [decA] at h ⊢; omega⟩
  | c :: r, a, hd, h => by
    rw [List.all_cons, Bool.and_eq_true] at hd
    obtain ⟨hc, hr⟩ := hd
    have hc := (isD_iff c).1 hc
    have hpos : 1 ≤ 10 ^ r.length := Nat.one_le_pow _ _ (by decide)
    have h1 : (10 * a + 10) * 10 ^ r.length ≤ 1000000000000000 := by
      have : (a + 1) * 10 ^ (c :: r).length = (10 * a + 10) * 10 ^ r.length := by
        rw [List.length_cons, Nat.pow_succ, Nat.mul_comm (10 ^ r.length) 10, ← Nat.mul_assoc]
        congr 1
        omega
      omega
    have h2 : 10 * a + 10 ≤ 1000000000000000 := Nat.le_trans (Nat.le_mul_of_pos_right _ hpos) h1
    have h3 : (10 * a + (c.toNat - 48) + 1) * 10 ^ r.length ≤ 1000000000000000 := Nat.le_trans (Nat.mul_le_mul_right _ (by omega)) h1
    have ih := pu_dig r (10 * a + (c.toNat - 48)) hr h3
    simp only [Lib.parseUint10]
    rw [if_pos hc, if_neg (by omega), if_neg (by omega), Nat.mul_comm a 10]
    exact ih
theorem atoi_dig {u : Bs} (h0 : u ≠ []) (hl : u.length ≤ 15) (hd : u.all isD = true) : Lib.atoiAll u = .ok (decN u : Int) := by
  obtain ⟨h1, h2⟩ := pu_dig u 0 hd (by
    rw [Nat.zero_add, Nat.one_mul]
    exact Nat.pow_le_pow_right (by decide : 0 < 10) hl)
  cases u with
  | nil => exact absurd rfl h0
  | cons c r =>
    have hc := (isD_iff c).1 (by rw [List.all_cons, Bool.and_eq_true] at hd; exact hd.1)
    unfold Lib.atoiAll
    simp only
    rw [if_neg (show ¬ (c.toNat = 43 ∨ c.toNat = 45) by omega)]
    unfold Lib.parseMag
    rw [if_neg (by simp), h1]
    simp only
    rw [if_neg (by omega), if_neg (by omega), if_neg (by omega)]
    rfl
/-- Atoi gives a value: the bytes are digits, but for a sign at the front -/
theorem atoi_ok {u : Bs} {v : Int} (h : Lib.atoiAll u = .ok v) : u ≠ [] ∧ (∀ c ∈ u, isD c = true ∨ c.toNat = 43 ∨ c.toNat = 45) ∧ (u.all (fun b => ! ([43, 45] : Bs).contains b) = true → u.all isD = true ∧ v = (decN u : Int)) := by
  cases u with
  | nil => cases h
  | cons c r =>
    unfold Lib.atoiAll at h
    simp only at h
    refine ⟨by simp, ?_⟩
    by_cases hs : c.toNat = 43 ∨ c.toNat = 45
    · rw [if_pos hs] at h
      have hm : ∃ u, Lib.parseMag r = .ok u := by
        cases hp : Lib.parseMag r
        · exact ⟨_, rfl⟩
        · rw [hp] at h; cases h
        · rw [hp] at h; cases h
      obtain ⟨u, hu⟩ := hm
      unfold Lib.parseMag at hu
      split at hu
      · cases hu
      · obtain ⟨h1, -⟩ := pu_ok r 0 u hu
        refine ⟨fun x hx => ?_, fun hn => ?_⟩
        · rcases List.mem_cons.1 hx with rfl | hx
          · exact .inr hs
          · exact .inl (List.all_eq_true.1 h1 x hx)
        · exfalso
          rw [List.all_cons, Bool.and_eq_true] at hn
          have hc : c = 43 ∨ c = 45 := hs.imp (fun e => UInt8.toNat_inj.1 e) (fun e => UInt8.toNat_inj.1 e)
          rcases hc with rfl | rfl
          · exact absurd hn.1 (by decide)
          · exact absurd hn.1 (by decide)
    · rw [if_neg hs] at h
      cases hp : Lib.parseMag (c :: r)
      rotate_left
      · rw [hp] at h; cases h
      · rw [hp] at h; cases h
      · rename_i u
        rw [hp] at h
        simp only at h
        unfold Lib.parseMag at hp
        rw [if_neg (by simp)] at hp
        obtain ⟨h1, h2⟩ := pu_ok _ 0 u hp
        refine ⟨fun x hx => .inl (List.all_eq_true.1 h1 x hx), fun _ => ⟨h1, ?_⟩⟩
        have h45 : ¬ c.toNat = 45 := fun e => hs (.inr e)
        split at h
        · cases h
        · split at h
          · cases h
          · injection h with h
            rw [← h, h2]
            rfl
theorem timeS_some {u : Bs} {t : Int} (h : timeS u = some t) : Lib.atoiAll u = .ok t ∧ u.length ≤ 15 := by
  unfold timeS at h
  split at h
  · cases h
  · rename_i hn
    injection h with h
    subst h
    have h0 : u ≠ [] := fun e => hn (.inl e)
    have h1 : u.length ≤ 15 := by
      rcases Nat.lt_or_ge 15 u.length with h | h
      · exact absurd (.inr (.inl h)) hn
      · exact h
    have h2 : u.all isD = true := by
      cases hd : u.all isD with
      | true => rfl
      | false => exact absurd (.inr (.inr hd)) hn
    exact ⟨atoi_dig h0 h1 h2, h1⟩
theorem timeS_ok {u : Bs} {v : Int} (h : Lib.atoiAll u = .ok v) (hl : u.length ≤ 15) (hs : Lib.containsAny u [43, 45] = false) : timeS u = some v := by
  obtain ⟨h1, -, h3⟩ := atoi_ok h
  obtain ⟨h4, rfl⟩ := h3 (by
    rw [any_index] at hs
    rw [List.all_eq_true]
    intro x hx
    rw [List.any_eq_false] at hs
    have := hs x hx
    simpa using this)
  unfold timeS
  rw [if_neg]
  rintro (h | h | h)
  · exact h1 h
  · omega
  · rw [h4] at h; cases h
theorem timeS_sign {u : Bs} (hs : Lib.containsAny u [43, 45] = true) : timeS u = none := by
  cases h : timeS u with
  | none => rfl
  | some t =>
    exfalso
    unfold timeS at h
    split at h
    · cases h
    · rename_i hn
      rw [any_index, List.any_eq_true] at hs
      obtain ⟨x, hx, hc⟩ := hs
      have h2 : u.all isD = true := by
        cases hd : u.all isD with
        | true => rfl
        | false => exact absurd (.inr (.inr hd)) hn
      have := (isD_iff x).1 (List.all_eq_true.1 h2 x hx)
      simp at hc
      rcases hc with rfl | rfl <;> revert this <;> decide
theorem timeS_long {u : Bs} (h : 15 < u.length) : timeS u = none := by
  unfold timeS
  rw [if_pos (.inr (.inl h))]
theorem timeS_bad {u : Bs} (h : ∀ v, Lib.atoiAll u ≠ .ok v) : timeS u = none := by
  cases ht : timeS u with
  | none => rfl
  | some t => exact absurd (timeS_some ht).1 (h t)
end Go.Proofs.YtgnkjcdkfcikeaaGreatDoor
