import Derived.Test.YtimeilkelnljnaaGreatDoorSig12
namespace Go.Proofs.YtimeilkelnljnaaGreatDoor
open Go.RowKit

/-- a change with another value -/
def btG (f : ByteArray → ByteArray) (c : Ch) : Ch × Bool := ((c.1, f c.2), true)
def slB (from_ width : Int) (s : ByteArray) : ByteArray := (slR s from_ width).1

theorem change_boxes (W : World) (t : Int) (s : ByteArray) :
    let W1 := ((W.alloc (.cells #[.int .i64 t, .string s] 75)).alloc (.cells #[.int .i64 0, .string ⟨#[]⟩] 75))
    W1.cell? ⟨W.heap.size, 0, none⟩ = some (.int .i64 t) ∧ W1.cell? ⟨W.heap.size, 1, none⟩ = some (.string s) ∧ W1.cell? ⟨W.heap.size + 1, 0, none⟩ = some (.int .i64 0) ∧ W1.cell? ⟨W.heap.size + 1, 1, none⟩ = some (.string ⟨#[]⟩) ∧
      W1.frozen? ⟨W.heap.size + 1, 0, none⟩ = false ∧ W1.frozen? ⟨W.heap.size + 1, 1, none⟩ = false ∧ Below W.heap.size W W1 := by
  intro W1
  have hb : Below W1.heap.size W1 W1 := Below.refl _ _
  have hbw := ext_alloc (ext_alloc hb)
  obtain ⟨p0, p1, q0, q1⟩ := box2r hb
  exact ⟨(boxN (ext_alloc hb) 0).1, (boxN (ext_alloc hb) 1).1, p0, p1, q0, q1, hbw⟩

theorem keep3 {w W : World} {B b p : Nat} {x y z u v : Value} (h : Below B w W) (hb : b + 1 < B) (hp : p < B) (p0 : w.cell? ⟨b, 0, none⟩ = some x) (p1 : w.cell? ⟨b, 1, none⟩ = some y) (p2 : w.cell? ⟨p, 0, none⟩ = some z)
    (p3 : w.cell? ⟨b + 1, 0, none⟩ = some u) (p4 : w.cell? ⟨b + 1, 1, none⟩ = some v) (q0 : w.frozen? ⟨b + 1, 0, none⟩ = false) (q1 : w.frozen? ⟨b + 1, 1, none⟩ = false) :
    W.cell? ⟨b, 0, none⟩ = some x ∧ W.cell? ⟨b, 1, none⟩ = some y ∧ W.cell? ⟨p, 0, none⟩ = some z ∧ W.cell? ⟨b + 1, 0, none⟩ = some u ∧ W.cell? ⟨b + 1, 1, none⟩ = some v ∧ W.frozen? ⟨b + 1, 0, none⟩ = false ∧ W.frozen? ⟨b + 1, 1, none⟩ = false :=
  ⟨(h.cell (p := ⟨b, 0, none⟩) (by show b < B; omega)).trans p0, (h.cell (p := ⟨b, 1, none⟩) (by show b < B; omega)).trans p1, (h.cell (p := ⟨p, 0, none⟩) hp).trans p2, (h.cell (p := ⟨b + 1, 0, none⟩) hb).trans p3, (h.cell (p := ⟨b + 1, 1, none⟩) hb).trans p4, (h.frozen (p := ⟨b + 1, 0, none⟩) hb).trans q0, (h.frozen (p := ⟨b + 1, 1, none⟩) hb).trans q1⟩

set_option maxHeartbeats 400000 in
set_option maxRecDepth 100000 in
theorem sig_Slice1 (p1 p2 : Nat) (from_ width : Int) (s : ByteArray) (W : World) (h1 : W.cell? ⟨p1, 0, none⟩ = some (.int .i64 from_)) (h2 : W.cell? ⟨p2, 0, none⟩ = some (.int .i64 width)) (hs : s.size ≤ maxLen) :
    Calls Tryz.prog 63 #[.string s, .pointer (some ⟨p1, 0, none⟩), .pointer (some ⟨p2, 0, none⟩)] W fun e w' => e = .returned (.string (slR s from_ width).1) ∧ Below W.heap.size W w' := by
  go_enter Tryz.func63, Tryz.ntmps63
  go_wp2_with fail
  refine (bits_Slice s from_ width _ hs).mono ?_
  rintro e w1 ⟨rfl, hb⟩
  go_wp2_with fail
  go_ret
  exact ⟨rfl, hb⟩

set_option maxHeartbeats 1600000 in
set_option maxRecDepth 100000 in
theorem sig_bits1_inv  (p : Nat) (c : Ch) (W : World) (hp : W.cell? ⟨p, 0, none⟩ = some (.func (.func 48) #[] #[]))  (hs : c.2.size ≤ maxLen) :
    Calls Tryz.prog 84 #[.agg #[.int .i64 c.1, .string c.2], .pointer (some ⟨p, 0, none⟩)] W fun e w' => e = .returned (.tuple #[.agg #[.int .i64 (btG (bvInv) c).1.1, .string (btG (bvInv) c).1.2], .bool (btG (bvInv) c).2]) ∧ Below W.heap.size W w' := by
  obtain ⟨t, s⟩ := c
  unfold btG
  dsimp only at hs ⊢
  obtain ⟨c0, c1, p0, p1', q0, q1, hbw⟩ := change_boxes W t s
  have hp' := (hbw.cell (p := ⟨p, 0, none⟩) (cell_lt hp)).trans hp
  have hpw := cell_lt hp
  have hpn : p ≠ W.heap.size + 1 := by omega
  have hpm : W.heap.size + 1 ≠ p := by omega
  have hpl := cell_lt hp'
  have HB := Lib.hid hbw
  clear hbw hp
  go_enter Tryz.func84, Tryz.ntmps84
  go_wp2_with fail
  obtain ⟨W1, hW1⟩ : ∃ W1, ((W.alloc (.cells #[.int .i64 t, .string s] 75)).alloc (.cells #[.int .i64 0, .string ⟨#[]⟩] 75)) = W1 := ⟨_, rfl⟩
  have hsz : W.heap.size + 1 < W1.heap.size := by rw [← hW1]; simp
  rw [hW1] at p0 p1' q0 q1 c0 c1 hp' hpl HB ⊢
  clear hW1
  go_region_held3 (fun w' => w'.cell? ⟨W.heap.size, 0, none⟩ = some (.int .i64 t) ∧ w'.cell? ⟨W.heap.size, 1, none⟩ = some (.string s) ∧ w'.cell? ⟨p, 0, none⟩ = some (.func (.func 48) #[] #[]))
    (first | exact ⟨r0, r1, r2⟩ | go_keep)
    ((go_at_call 48; (with_reducible refine (bits_Inverse s _ ?_).mono ?_); (exact hs); rintro e w3 ⟨rfl, hb3⟩; obtain ⟨r0, r1, r2, r3, r4, r5, r6⟩ := keep3 hb3 hsz hpl c0 c1 hp' p0 p1' q0 q1; have HB3 := Lib.hid hb3; clear hb3))
  go_wp2_with fail
  refine bodyPost_ret (v := .tuple #[.agg #[.int .i64 t, .string (bvInv s)], .bool true]) (by simp [results, Tryz.results84, go_sem, r3, r4] <;> rfl) rfl ⟨rfl, ?_⟩
  exact ((HB.out.drew.trans (HB3.out.mono HB.out.size)).setCell (Nat.le_succ _) _).setCell (Nat.le_succ _) _
set_option maxHeartbeats 1600000 in
set_option maxRecDepth 100000 in
theorem sig_bits1_sl (p1 p2 : Nat) (from_ width : Int) (p : Nat) (c : Ch) (W : World) (hp : W.cell? ⟨p, 0, none⟩ = some (.func (.func 63) #[] #[.pointer (some ⟨p1, 0, none⟩), .pointer (some ⟨p2, 0, none⟩)])) (h1 : W.cell? ⟨p1, 0, none⟩ = some (.int .i64 from_)) (h2 : W.cell? ⟨p2, 0, none⟩ = some (.int .i64 width)) (hs : c.2.size ≤ maxLen) :
    Calls Tryz.prog 84 #[.agg #[.int .i64 c.1, .string c.2], .pointer (some ⟨p, 0, none⟩)] W fun e w' => e = .returned (.tuple #[.agg #[.int .i64 (btG (slB from_ width) c).1.1, .string (btG (slB from_ width) c).1.2], .bool (btG (slB from_ width) c).2]) ∧ Below W.heap.size W w' := by
  obtain ⟨t, s⟩ := c
  unfold btG
  dsimp only at hs ⊢
  obtain ⟨c0, c1, p0, p1', q0, q1, hbw⟩ := change_boxes W t s
  have hp' := (hbw.cell (p := ⟨p, 0, none⟩) (cell_lt hp)).trans hp
  have hpw := cell_lt hp
  have hpn : p ≠ W.heap.size + 1 := by omega
  have hpm : W.heap.size + 1 ≠ p := by omega
  have hpl := cell_lt hp'
  have HB := Lib.hid hbw
  clear hbw hp
  go_enter Tryz.func84, Tryz.ntmps84
  go_wp2_with fail
  obtain ⟨W1, hW1⟩ : ∃ W1, ((W.alloc (.cells #[.int .i64 t, .string s] 75)).alloc (.cells #[.int .i64 0, .string ⟨#[]⟩] 75)) = W1 := ⟨_, rfl⟩
  have hsz : W.heap.size + 1 < W1.heap.size := by rw [← hW1]; simp
  rw [hW1] at p0 p1' q0 q1 c0 c1 hp' hpl HB ⊢
  clear hW1
  go_region_held3 (fun w' => w'.cell? ⟨W.heap.size, 0, none⟩ = some (.int .i64 t) ∧ w'.cell? ⟨W.heap.size, 1, none⟩ = some (.string s) ∧ w'.cell? ⟨p, 0, none⟩ = some (.func (.func 63) #[] #[.pointer (some ⟨p1, 0, none⟩), .pointer (some ⟨p2, 0, none⟩)]))
    (first | exact ⟨r0, r1, r2⟩ | go_keep)
    ((go_at_call 63; (with_reducible refine (sig_Slice1 p1 p2 from_ width s _ ?_ ?_ ?_).mono ?_); (exact (HB.out.cell (p := ⟨p1, 0, none⟩) (cell_lt h1)).trans h1); (exact (HB.out.cell (p := ⟨p2, 0, none⟩) (cell_lt h2)).trans h2); (exact hs); rintro e w3 ⟨rfl, hb3⟩; obtain ⟨r0, r1, r2, r3, r4, r5, r6⟩ := keep3 hb3 hsz hpl c0 c1 hp' p0 p1' q0 q1; have HB3 := Lib.hid hb3; clear hb3))
  go_wp2_with fail
  refine bodyPost_ret (v := .tuple #[.agg #[.int .i64 t, .string (slB from_ width s)], .bool true]) (by simp [results, Tryz.results84, go_sem, r3, r4] <;> rfl) rfl ⟨rfl, ?_⟩
  exact ((HB.out.drew.trans (HB3.out.mono HB.out.size)).setCell (Nat.le_succ _) _).setCell (Nat.le_succ _) _
end Go.Proofs.YtimeilkelnljnaaGreatDoor
