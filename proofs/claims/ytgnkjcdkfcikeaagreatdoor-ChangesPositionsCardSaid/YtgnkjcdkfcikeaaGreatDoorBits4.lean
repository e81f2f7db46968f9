import Derived.Test.YtgnkjcdkfcikeaaGreatDoorBits3
import Derived.Test.YtgnkjcdkfcikeaaGreatDoorShelf
namespace Go.Proofs.YtgnkjcdkfcikeaaGreatDoor
open Go.RowKit

def allR (n : Int) (c : UInt8) : ByteArray := if n < 1 ∨ 128 < n ∨ codeOf c = -1 then ⟨#[]⟩ else ⟨(List.replicate n.toNat c).toArray⟩

theorem repeatL_one (c : UInt8) (n : Nat) : Lib.repeatL [c] n = List.replicate n c := by
  induction n with
  | zero => rfl
  | succ n ih => rw [Lib.repeatL, ih]; rfl

theorem one_byte (P : Program) (w : World) (src dst e : TypeId) (c : UInt8) (hs : P.underlying src = some (.slice e)) (he : P.underlying e = some (.int .u8)) (hd : P.underlying dst = some .string) :
    (convert src dst (.slice (some ⟨w.heap.size, 0, none⟩) 1 1)).run P (w.alloc (.cells #[.int .u8 c.toNat] e)) = .ok (.string ⟨#[c]⟩) (w.alloc (.cells #[.int .u8 c.toNat] e)) := by
  have := run_convert_bytes_back (P := P) (w.alloc (.cells #[.int .u8 c.toNat] e)) src dst e ⟨w.heap.size, 0, none⟩ 1 [c] hs he hd (fun j hj => by
    simp at hj; subst hj; rw [addr_add, World.cell?_alloc_mark]; rfl)
  exact this

set_option maxHeartbeats 400000 in
set_option maxRecDepth 100000 in
theorem bits_All (n : Int) (c : UInt8) (w : World) :
    Calls Tryz.prog 67 #[.int .i64 n, .int .u8 c.toNat] w fun e w' => e = .returned (.string (allR n c)) ∧ Below w.heap.size w w' := by
  by_cases h1 : n < 1 ∨ 128 < n
  · have e : allR n c = ⟨#[]⟩ := by rw [allR, if_pos]; omega
    have E := Lib.hid e
    clear e
    rcases h1 with h1 | h1
    all_goals
      go_enter Tryz.func67, Tryz.ntmps67
      go_wp2_with fail
      go_ret
      exact ⟨ret_str E.out.symm, Below.refl _ _⟩
  obtain ⟨g1, g2⟩ : 1 ≤ n ∧ n ≤ 128 := by omega
  clear h1
  by_cases h2 : codeOf c = -1
  · have e : allR n c = ⟨#[]⟩ := by rw [allR, if_pos]; omega
    have E := Lib.hid e
    have h3 : (codeOf c != -1) = false := by simp [h2]
    clear e h2
    go_enter Tryz.func67, Tryz.ntmps67
    go_wp2_with fail
    refine (logic_Valid _ _).mono ?_
    rintro e w' ⟨rfl, rfl⟩
    go_wp2_with fail
    go_ret
    exact ⟨ret_str E.out.symm, Below.refl _ _⟩
  · have e : allR n c = ⟨(List.replicate n.toNat c).toArray⟩ := by rw [allR, if_neg]; omega
    have E := Lib.hid e
    have h3 : (codeOf c != -1) = true := by simp [h2]
    clear e h2
    obtain ⟨k, rfl⟩ := Int.eq_ofNat_of_zero_le (show 0 ≤ n by omega)
    have hcb := one_byte Tryz.prog w 66 9 5 c Tryz.underlying66 Tryz.underlying5 Tryz.underlying9
    go_enter Tryz.func67, Tryz.ntmps67
    go_wp2_with fail
    refine (logic_Valid _ _).mono ?_
    rintro e w' ⟨rfl, rfl⟩
    go_wp2_with fail
    refine (Tryz.strings_Repeat ⟨#[c]⟩ k _ (by omega) (by simp [ByteArray.size]; omega)).mono ?_
    rintro e w1 ⟨rfl, hb⟩
    go_wp2_with fail
    go_ret
    exact ⟨ret_str (by rw [E.out, Int.toNat_natCast, repeatL_one]), ((Below.refl _ _).alloc (Nat.le_refl _) _).trans (hb.mono (by simp))⟩
end Go.Proofs.YtgnkjcdkfcikeaaGreatDoor
