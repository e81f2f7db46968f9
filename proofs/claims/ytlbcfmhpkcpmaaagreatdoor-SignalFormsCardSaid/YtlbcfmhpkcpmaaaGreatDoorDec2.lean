import Derived.Test.YtlbcfmhpkcpmaaaGreatDoorDec1
namespace Go.Proofs.YtlbcfmhpkcpmaaaGreatDoor
open Go.RowKit

def isDig (c : UInt8) : Bool := decide (48 ≤ c.toNat) && decide (c.toNat ≤ 57)

/-- how many digits stand in s from k on -/
def digRun (s : ByteArray) (k : Nat) : Nat := ((s.data.toList.drop k).takeWhile isDig).length

theorem takeWhile_at {α : Type} (p : α → Bool) : ∀ (l : List α) (j : Nat), j < (l.takeWhile p).length → ∃ x, l[j]? = some x ∧ p x = true
  | [], j, h => by simp at h
  | a :: l, j, h => by
    by_cases ha : p a = true
    · rw [List.takeWhile_cons_of_pos ha] at h
      cases j with
      | zero => exact ⟨a, rfl, ha⟩
      | succ j => exact takeWhile_at p l j (by simpa using h)
    · rw [List.takeWhile_cons_of_neg ha] at h
      simp at h
theorem takeWhile_end {α : Type} (p : α → Bool) : ∀ (l : List α) (x : α), l[(l.takeWhile p).length]? = some x → p x = false
  | [], x, h => by simp at h
  | a :: l, x, h => by
    by_cases ha : p a = true
    · rw [List.takeWhile_cons_of_pos ha] at h
      exact takeWhile_end p l x (by simpa using h)
    · rw [List.takeWhile_cons_of_neg ha] at h
      simp at h; subst h; simpa using ha

theorem digRun_le (s : ByteArray) (k : Nat) (hk : k ≤ s.size) : k + digRun s k ≤ s.size := by
  have := List.Sublist.length_le (List.takeWhile_sublist (l := s.data.toList.drop k) isDig)
  have h2 : (s.data.toList.drop k).length = s.size - k := by simp
  unfold digRun; omega
theorem digRun_at (s : ByteArray) (k j : Nat) (hj : j < digRun s k) (h : k + j < s.size) : isDig s[k + j] = true := by
  obtain ⟨x, hx, hp⟩ := takeWhile_at isDig _ j hj
  rw [List.getElem?_drop] at hx
  have : s.data.toList[k+j]? = some s[k+j] := List.getElem?_eq_getElem (by simpa using h)
  rw [this] at hx
  rw [Option.some.inj hx]; exact hp
theorem digRun_end (s : ByteArray) (k : Nat) (h : k + digRun s k < s.size) : isDig s[k + digRun s k] = false := by
  apply takeWhile_end isDig (s.data.toList.drop k)
  rw [List.getElem?_drop]
  exact List.getElem?_eq_getElem (show k + digRun s k < s.data.toList.length by simpa using h)

theorem grown_setCell {w w' : World} {B : Nat} (h : w.grownBy w' (some B)) (o : Nat) (v : Value) : w.grownBy (w'.setCell ⟨B, o, none⟩ v) (some B) :=
  ⟨h.os, h.tape, h.output, by simpa [World.setCell] using h.size, fun i hi hne => (Below.heap_setCell w' _ v i (by rintro rfl; exact hne rfl)).trans (h.block i hi hne)⟩

set_option maxHeartbeats 400000 in
set_option maxRecDepth 100000 in
theorem scan_digits (s : ByteArray) (k B S : Nat) (w : World) (hk : k ≤ s.size) (hs : s.size ≤ 1000)
    (ha : w.cell? ⟨B, 0, none⟩ = some (.int .i64 k)) (hS : w.cell? ⟨S, 0, none⟩ = some (.string s)) (hf : w.frozen? ⟨B, 0, none⟩ = false) (hBS : B ≠ S) :
    Calls Tryz.prog 153 #[.pointer (some ⟨B, 0, none⟩), .pointer (some ⟨S, 0, none⟩)] w fun e w' => e = .returned (.string (s.extract k (k + digRun s k))) ∧ w.grownBy w' (some B) ∧ w'.cell? ⟨B, 0, none⟩ = some (.int .i64 ((k + digRun s k : Nat) : Int)) ∧ w'.frozen? ⟨B, 0, none⟩ = false := by
  go_enter Tryz.func153, Tryz.ntmps153
  go_wp2_with fail
  go_loopw [21] (fun _ wr => ∃ j : Nat, j ≤ digRun s k ∧ wr.cell? ⟨B, 0, none⟩ = some (.int .i64 ((k + j : Nat) : Int)) ∧ wr.frozen? ⟨B, 0, none⟩ = false ∧ wr.cell? ⟨S, 0, none⟩ = some (.string s) ∧ w.grownBy wr (some B))
    (fun _ wr => match wr.cell? ⟨B, 0, none⟩ with | some (.int _ n) => s.size - n.toNat | _ => 0)
  case atStart => exact ⟨0, Nat.zero_le _, ha, hf, hS, World.grownBy.refl _ _⟩
  case round =>
    obtain ⟨j, hj, ha', hf', hS', hg⟩ := hrel
    clear ha hf hS
    have hle := digRun_le s k hk
    by_cases hlt : k + j < s.size
    · have hd : decide (k + j < s.size) = true := by simpa using hlt
      by_cases hjr : j < digRun s k
      · have h1 := digRun_at s k j hjr hlt
        obtain ⟨h2, h3⟩ : 48 ≤ s[k+j].toNat ∧ s[k+j].toNat ≤ 57 := by simpa [isDig] using h1
        clear h1
        go_wp2_with fail
        go_roundw
        case rel => exact ⟨j + 1, by omega, by rw [World.cell?_setCell_same _ _ _ ha']; simp; omega, by rw [World.frozen?_setCell]; exact hf', by rw [World.cell?_setCell_other (h := by intro e; injection e with e; exact hBS e)]; exact hS', grown_setCell hg _ _⟩
        case measure => rw [World.cell?_setCell_same _ _ _ ha', ha']; simp; omega
      · obtain rfl : j = digRun s k := by omega
        have h1 := digRun_end s k hlt
        rcases (show s[k + digRun s k].toNat < 48 ∨ 57 < s[k + digRun s k].toNat by simp [isDig] at h1; omega) with h2 | h2
        all_goals
          clear h1
          go_wp2_with fail
          go_ret
          exact ⟨ret_str (by simp), hg, ha', hf'⟩
    · obtain rfl : j = digRun s k := by omega
      have hd : decide (k + digRun s k < s.size) = false := by simp; omega
      go_wp2_with fail
      go_ret
      exact ⟨ret_str (by simp), hg, ha', hf'⟩
end Go.Proofs.YtlbcfmhpkcpmaaaGreatDoor
