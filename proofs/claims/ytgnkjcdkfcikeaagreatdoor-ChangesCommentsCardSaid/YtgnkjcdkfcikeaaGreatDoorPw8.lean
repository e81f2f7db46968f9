import Derived.Test.YtgnkjcdkfcikeaaGreatDoorPw7
namespace Go.Proofs.YtgnkjcdkfcikeaaGreatDoor
open Go.RowKit
set_option linter.unusedSimpArgs false

/-! the keywords -/
abbrev mV (f B : Nat) : Value := .func (.func f) #[.pointer (some ⟨B, 0, none⟩)] #[]
def kwF (B : Nat) (s : BsM) : Option Value :=
  if s = sEnd then some (mV 46 B) else if s = sDumpon then some (mV 45 B) else if s = sDumpoff then some (mV 45 B)
  else if s = sDumpall then some (mV 44 B) else if s = sDumpvars then some (mV 44 B) else none
def KwPost (B : Nat) (w : World) (e : Ending) (w' : World) : Prop := e = .returned (.map (some w.heap.size)) ∧ SMap Tryz.prog 9 w' w.heap.size 5 (kwF B) ∧ Below w.heap.size w w'
set_option maxHeartbeats 800000 in
theorem ps_keywords (B : Nat) (w : World) : Calls Tryz.prog 32 #[.pointer (some ⟨B, 0, none⟩)] w (KwPost B w) := by
  have hmm := @run_makeMap Tryz.prog
  have h0 := SMap.made w Tryz.prog 9
  have b0 : Below w.heap.size w (w.alloc (.map #[] 0)) := (Below.refl _ _).alloc (Nat.le_refl _) _
  generalize hw0 : w.alloc (.map #[] 0) = w0 at *
  obtain ⟨w1, r1, h1, g1⟩ := h0.put (t := 83) Tryz.underlying9 Tryz.underlying83 (by unfold maxLen; omega) (⟨#[36, 100, 117, 109, 112, 118, 97, 114, 115]⟩ : ByteArray) (by unfold maxLen; decide) (mV 44 B)
  have b1 := b0.grown g1 b0.size (fun k e => by cases e; exact Nat.le_refl _)
  obtain ⟨w2, r2, h2, g2⟩ := h1.put (t := 83) Tryz.underlying9 Tryz.underlying83 (by unfold maxLen; omega) (⟨#[36, 100, 117, 109, 112, 97, 108, 108]⟩ : ByteArray) (by unfold maxLen; decide) (mV 44 B)
  have b2 := b1.grown g2 b1.size (fun k e => by cases e; exact Nat.le_refl _)
  obtain ⟨w3, r3, h3, g3⟩ := h2.put (t := 83) Tryz.underlying9 Tryz.underlying83 (by unfold maxLen; omega) (⟨#[36, 100, 117, 109, 112, 111, 102, 102]⟩ : ByteArray) (by unfold maxLen; decide) (mV 45 B)
  have b3 := b2.grown g3 b2.size (fun k e => by cases e; exact Nat.le_refl _)
  obtain ⟨w4, r4, h4, g4⟩ := h3.put (t := 83) Tryz.underlying9 Tryz.underlying83 (by unfold maxLen; omega) (⟨#[36, 100, 117, 109, 112, 111, 110]⟩ : ByteArray) (by unfold maxLen; decide) (mV 45 B)
  have b4 := b3.grown g4 b3.size (fun k e => by cases e; exact Nat.le_refl _)
  obtain ⟨w5, r5, h5, g5⟩ := h4.put (t := 83) Tryz.underlying9 Tryz.underlying83 (by unfold maxLen; omega) (⟨#[36, 101, 110, 100]⟩ : ByteArray) (by unfold maxLen; decide) (mV 46 B)
  have b5 := b4.grown g5 b4.size (fun k e => by cases e; exact Nat.le_refl _)
  have H5 := Lib.hid h5
  have B5 := Lib.hid b5
  clear h0 h1 h2 h3 h4 h5 b0 b1 b2 b3 b4 b5 g1 g2 g3 g4 g5
  go_enter Tryz.func32, Tryz.ntmps32
  go_wp2_with fail
  go_ret
  refine ⟨rfl, H5.out.ext (fun s => ?_), B5.out⟩
  unfold kwF sEnd sDumpon sDumpoff sDumpall sDumpvars
  rfl
end Go.Proofs.YtgnkjcdkfcikeaaGreatDoor
