import Derived.Test.YtbiadennhnokhaaGreatDoorZ04
import Derived.BigRegion
import Derived.Deep.RegionHeld3
import Derived.Laws.EntriesVeiled
namespace Go.Proofs.YtbiadennhnokhaaGreatDoor
open Go.RowKit

set_option maxHeartbeats 400000 in
theorem val_same (s : ByteArray) (w : World) :
    Calls Tryz.prog 235 #[.string s] w fun e w' => e = .returned (.func (.func 275) #[] #[.pointer (some ⟨w.heap.size, 0, none⟩)]) ∧ w.alloc (.cells #[.string s] 9) = w' := by
  go_enter Tryz.func235, Tryz.ntmps235
  go_wp2_with fail
  go_ret
  exact ⟨rfl, rfl⟩
theorem val_same1 (n : Int) (s : ByteArray) (b : Nat) (w : World) (h : w.cell? ⟨b, 0, none⟩ = some (.string s)) :
    Calls Tryz.prog 275 #[.int .i64 n, .pointer (some ⟨b, 0, none⟩)] w fun e w' => e = .returned (.string s) ∧ w = w' := by
  go_enter Tryz.func275, Tryz.ntmps275
  go_wp2_with fail
  go_ret
  exact ⟨rfl, rfl⟩

set_option maxHeartbeats 400000 in
set_option maxRecDepth 100000 in
theorem val_kinds (w : World) :
    Calls Tryz.prog 179 #[] w fun e w' => e = .returned (.slice (some ⟨w.heap.size + 1 + 1 + 1, 0, none⟩) 4 4) ∧ (((w.alloc (.cells #[.string ⟨#[48]⟩] 9)).alloc (.cells #[.string ⟨#[]⟩] 9)).alloc (.cells #[.string ⟨#[]⟩] 9)).alloc (.cells #[.int .i64 1, .int .i64 128, .func (.func 151) #[] #[], .func (.func 229) #[] #[], .func (.func 231) #[] #[], .func (.func 232) #[] #[], .string ⟨#[98]⟩, .int .i64 0, .int .i64 0, .func (.func 233) #[] #[], .func (.func 275) #[] #[.pointer (some ⟨w.heap.size, 0, none⟩)], .func (.func 236) #[] #[], .func (.func 238) #[] #[], .string ⟨#[114]⟩, .int .i64 0, .int .i64 0, .func (.func 239) #[] #[], .func (.func 275) #[] #[.pointer (some ⟨w.heap.size + 1, 0, none⟩)], .func (.func 240) #[] #[], .func (.func 242) #[] #[], .string ⟨#[115]⟩, .int .i64 0, .int .i64 0, .func (.func 243) #[] #[], .func (.func 275) #[] #[.pointer (some ⟨w.heap.size + 1 + 1, 0, none⟩)], .func (.func 244) #[] #[], .func (.func 245) #[] #[], .string ⟨#[]⟩] 186) = w' := by
  go_enter Tryz.func179, Tryz.ntmps179
  go_wp2_with fail
  refine (val_same _ _).mono ?_
  rintro e w' ⟨rfl, rfl⟩
  go_wp2_with fail
  refine (val_same _ _).mono ?_
  rintro e w' ⟨rfl, rfl⟩
  go_wp2_with fail
  refine (val_same _ _).mono ?_
  rintro e w' ⟨rfl, rfl⟩
  go_wp2_with fail
  go_ret
  exact ⟨rfl, rfl⟩

def kd0 (_ : Nat) : Array Value := #[.int .i64 1, .int .i64 128, .func (.func 151) #[] #[], .func (.func 229) #[] #[], .func (.func 231) #[] #[], .func (.func 232) #[] #[], .string ⟨#[98]⟩]
def kd1 (B : Nat) : Array Value := #[.int .i64 0, .int .i64 0, .func (.func 233) #[] #[], .func (.func 275) #[] #[.pointer (some ⟨B, 0, none⟩)], .func (.func 236) #[] #[], .func (.func 238) #[] #[], .string ⟨#[114]⟩]
def kd2 (B : Nat) : Array Value := #[.int .i64 0, .int .i64 0, .func (.func 239) #[] #[], .func (.func 275) #[] #[.pointer (some ⟨B + 1, 0, none⟩)], .func (.func 240) #[] #[], .func (.func 242) #[] #[], .string ⟨#[115]⟩]
def kd3 (B : Nat) : Array Value := #[.int .i64 0, .int .i64 0, .func (.func 243) #[] #[], .func (.func 275) #[] #[.pointer (some ⟨B + 1 + 1, 0, none⟩)], .func (.func 244) #[] #[], .func (.func 245) #[] #[], .string ⟨#[]⟩]

/-- the strings of the closures -/
def KindStr (w : World) (B : Nat) : Prop := w.cell? ⟨B, 0, none⟩ = some (.string ⟨#[48]⟩) ∧ w.cell? ⟨B + 1, 0, none⟩ = some (.string ⟨#[]⟩) ∧ w.cell? ⟨B + 1 + 1, 0, none⟩ = some (.string ⟨#[]⟩)
def OfPost (kd : Nat → Array Value) (ok : Bool) (w : World) (e : Ending) (w' : World) : Prop :=
  ∃ B, e = .returned (.tuple #[.agg (kd B), .bool ok]) ∧ KindStr w' B ∧ Below w.heap.size w w'

def kdAll (B : Nat) : Array Value := #[.int .i64 1, .int .i64 128, .func (.func 151) #[] #[], .func (.func 229) #[] #[], .func (.func 231) #[] #[], .func (.func 232) #[] #[], .string ⟨#[98]⟩, .int .i64 0, .int .i64 0, .func (.func 233) #[] #[], .func (.func 275) #[] #[.pointer (some ⟨B, 0, none⟩)], .func (.func 236) #[] #[], .func (.func 238) #[] #[], .string ⟨#[114]⟩, .int .i64 0, .int .i64 0, .func (.func 239) #[] #[], .func (.func 275) #[] #[.pointer (some ⟨B + 1, 0, none⟩)], .func (.func 240) #[] #[], .func (.func 242) #[] #[], .string ⟨#[115]⟩, .int .i64 0, .int .i64 0, .func (.func 243) #[] #[], .func (.func 275) #[] #[.pointer (some ⟨B + 1 + 1, 0, none⟩)], .func (.func 244) #[] #[], .func (.func 245) #[] #[], .string ⟨#[]⟩]
def KindsPost (w : World) (e : Ending) (w' : World) : Prop :=
  ∃ B, e = .returned (.slice (some ⟨B + 1 + 1 + 1, 0, none⟩) 4 4) ∧ w.heap.size ≤ B ∧ KindStr w' B ∧ (∀ i, w'.cell? ⟨B + 1 + 1 + 1, i, none⟩ = (kdAll B)[i]?) ∧ Below w.heap.size w w'
theorem val_kinds' (w : World) : Calls Tryz.prog 179 #[] w (KindsPost w) := by
  refine (val_kinds w).mono ?_
  rintro e w' ⟨rfl, rfl⟩
  have h1 := (OwnRow.fresh w #[.string ⟨#[48]⟩] 9).cell (j := 0) rfl
  have h2 := (OwnRow.fresh (w.alloc (.cells #[.string ⟨#[48]⟩] 9)) #[.string ⟨#[]⟩] 9).cell (j := 0) rfl
  have h3 := (OwnRow.fresh ((w.alloc (.cells #[.string ⟨#[48]⟩] 9)).alloc (.cells #[.string ⟨#[]⟩] 9)) #[.string ⟨#[]⟩] 9).cell (j := 0) rfl
  simp only [World.size_alloc] at h2 h3
  refine ⟨w.heap.size, rfl, Nat.le_refl _, ⟨cell_alloc (cell_alloc (cell_alloc h1 _) _) _, cell_alloc (cell_alloc h2 _) _, cell_alloc h3 _⟩, fun i => ?_, ?_⟩
  · have := World.cell?_alloc_mark (((w.alloc (.cells #[.string ⟨#[48]⟩] 9)).alloc (.cells #[.string ⟨#[]⟩] 9)).alloc (.cells #[.string ⟨#[]⟩] 9)) (kdAll w.heap.size) 186 (0, 0) i
    simp only [World.size_alloc] at this
    exact this
  · exact (((Below.refl _ _).alloc (Nat.le_refl _) _).alloc (by simp) _ |>.alloc (by simp; omega) _).alloc (by simp; omega) _

theorem OfPost.mk {kd : Nat → Array Value} {ok : Bool} {w W : World} {B : Nat} (h : KindStr W B ∧ Below w.heap.size w W) : OfPost kd ok w (.returned (.tuple #[.agg (kd B), .bool ok])) W := ⟨B, rfl, h.1, h.2⟩
theorem of_step {w W : World} {B : Nat} (hB : w.heap.size < B) (h : KindStr W B ∧ Below w.heap.size w W) (i : Nat) (v : Value) :
    KindStr (W.setCell ⟨w.heap.size, i, none⟩ v) B ∧ Below w.heap.size w (W.setCell ⟨w.heap.size, i, none⟩ v) := by
  have o : ∀ (b : Nat) (u : Value), w.heap.size < b → W.cell? ⟨b, 0, none⟩ = some u → (W.setCell ⟨w.heap.size, i, none⟩ v).cell? ⟨b, 0, none⟩ = some u := fun b u hij h => by
    rw [World.cell?_setCell_other (h := by intro e; injection e with e1; omega)]; exact h
  exact ⟨⟨o _ _ hB h.1.1, o _ _ (by omega) h.1.2.1, o _ _ (by omega) h.1.2.2⟩, h.2.setCell (Nat.le_refl _) _⟩
theorem of_drew {w W : World} {B : Nat} (h : KindStr W B ∧ Below w.heap.size w W) : KindStr W.drew B ∧ Below w.heap.size w W.drew := ⟨h.1, h.2.drew⟩

set_option maxHeartbeats 1000000 in
set_option maxRecDepth 100000 in
theorem val_of0_yes (n : Int) (w : World) (h1 : 1 ≤ n) (h2 : n ≤ 128) :
    Calls Tryz.prog 142 #[.int .i64 0, .int .i64 n] w (OfPost kd0 true w) := by
  go_enter Tryz.func142, Tryz.ntmps142
  go_wp2_with fail
  refine (val_kinds' _).mono ?_
  rintro e w1 ⟨B, rfl, hB, hK, hc, hb⟩
  have f := fun i => (boxN hb i).2
  have f0 := f 0
  have f1 := f 1
  have f2 := f 2
  have f3 := f 3
  have f4 := f 4
  have f5 := f 5
  have f6 := f 6
  have g0 : w1.cell? ⟨w.heap.size, 0, none⟩ = some (.int .i64 0) := (boxN hb 0).1
  have g1 : w1.cell? ⟨w.heap.size, 1, none⟩ = some (.int .i64 0) := (boxN hb 1).1
  have g2 : w1.cell? ⟨w.heap.size, 2, none⟩ = some (.nilFunc) := (boxN hb 2).1
  have g3 : w1.cell? ⟨w.heap.size, 3, none⟩ = some (.nilFunc) := (boxN hb 3).1
  have g4 : w1.cell? ⟨w.heap.size, 4, none⟩ = some (.nilFunc) := (boxN hb 4).1
  have g5 : w1.cell? ⟨w.heap.size, 5, none⟩ = some (.nilFunc) := (boxN hb 5).1
  have g6 : w1.cell? ⟨w.heap.size, 6, none⟩ = some (.string ⟨#[]⟩) := (boxN hb 6).1
  have c0 : w1.cell? ⟨B + 1 + 1 + 1, 0, none⟩ = some (.int .i64 1) := hc 0
  have c1 : w1.cell? ⟨B + 1 + 1 + 1, 1, none⟩ = some (.int .i64 128) := hc 1
  have c2 : w1.cell? ⟨B + 1 + 1 + 1, 2, none⟩ = some (.func (.func 151) #[] #[]) := hc 2
  have c3 : w1.cell? ⟨B + 1 + 1 + 1, 3, none⟩ = some (.func (.func 229) #[] #[]) := hc 3
  have c4 : w1.cell? ⟨B + 1 + 1 + 1, 4, none⟩ = some (.func (.func 231) #[] #[]) := hc 4
  have c5 : w1.cell? ⟨B + 1 + 1 + 1, 5, none⟩ = some (.func (.func 232) #[] #[]) := hc 5
  have c6 : w1.cell? ⟨B + 1 + 1 + 1, 6, none⟩ = some (.string ⟨#[98]⟩) := hc 6
  have HB := Lib.hid (ext_alloc hb)
  have HK := Lib.hid hK
  have hBl : w.heap.size < B := by simp at hB; omega
  have hBn : B + 1 + 1 + 1 ≠ w.heap.size := by simp at hB; omega
  have hBn' : w.heap.size ≠ B + 1 + 1 + 1 := by simp at hB; omega
  clear hc f hb hK
  go_wp2_with fail
  go_region_held3 (fun w' => w'.cell? ⟨B + 1 + 1 + 1, 0, none⟩ = some (.int .i64 1) ∧ w'.cell? ⟨B + 1 + 1 + 1, 1, none⟩ = some (.int .i64 128) ∧ w'.cell? ⟨B + 1 + 1 + 1, 2, none⟩ = some (.func (.func 151) #[] #[]) ∧ w'.cell? ⟨B + 1 + 1 + 1, 3, none⟩ = some (.func (.func 229) #[] #[]) ∧ w'.cell? ⟨B + 1 + 1 + 1, 4, none⟩ = some (.func (.func 231) #[] #[]) ∧ w'.cell? ⟨B + 1 + 1 + 1, 5, none⟩ = some (.func (.func 232) #[] #[]) ∧ w'.cell? ⟨B + 1 + 1 + 1, 6, none⟩ = some (.string ⟨#[98]⟩)) (go_keep) (fail)
  go_wp2_with fail
  refine bodyPost_ret (v := .tuple #[.agg (kd0 B), .bool true]) (by simp [results, Tryz.results142, go_sem, g0, g1, g2, g3, g4, g5, g6, kd0]) rfl (OfPost.mk (of_drew (of_step hBl (of_step hBl (of_step hBl (of_step hBl (of_step hBl (of_step hBl (of_step hBl ⟨HK.out, HB.out⟩ _ _) _ _) _ _) _ _) _ _) _ _) _ _)))

set_option maxHeartbeats 1000000 in
set_option maxRecDepth 100000 in
theorem val_of0_high (n : Int) (w : World) (h2 : 128 < n) :
    Calls Tryz.prog 142 #[.int .i64 0, .int .i64 n] w (OfPost kd0 false w) := by
  have h1 : 1 ≤ n := by omega
  have hd : decide (n ≤ 128) = false := by simp; omega
  go_enter Tryz.func142, Tryz.ntmps142
  go_wp2_with fail
  refine (val_kinds' _).mono ?_
  rintro e w1 ⟨B, rfl, hB, hK, hc, hb⟩
  have f := fun i => (boxN hb i).2
  have f0 := f 0
  have f1 := f 1
  have f2 := f 2
  have f3 := f 3
  have f4 := f 4
  have f5 := f 5
  have f6 := f 6
  have g0 : w1.cell? ⟨w.heap.size, 0, none⟩ = some (.int .i64 0) := (boxN hb 0).1
  have g1 : w1.cell? ⟨w.heap.size, 1, none⟩ = some (.int .i64 0) := (boxN hb 1).1
  have g2 : w1.cell? ⟨w.heap.size, 2, none⟩ = some (.nilFunc) := (boxN hb 2).1
  have g3 : w1.cell? ⟨w.heap.size, 3, none⟩ = some (.nilFunc) := (boxN hb 3).1
  have g4 : w1.cell? ⟨w.heap.size, 4, none⟩ = some (.nilFunc) := (boxN hb 4).1
  have g5 : w1.cell? ⟨w.heap.size, 5, none⟩ = some (.nilFunc) := (boxN hb 5).1
  have g6 : w1.cell? ⟨w.heap.size, 6, none⟩ = some (.string ⟨#[]⟩) := (boxN hb 6).1
  have c0 : w1.cell? ⟨B + 1 + 1 + 1, 0, none⟩ = some (.int .i64 1) := hc 0
  have c1 : w1.cell? ⟨B + 1 + 1 + 1, 1, none⟩ = some (.int .i64 128) := hc 1
  have c2 : w1.cell? ⟨B + 1 + 1 + 1, 2, none⟩ = some (.func (.func 151) #[] #[]) := hc 2
  have c3 : w1.cell? ⟨B + 1 + 1 + 1, 3, none⟩ = some (.func (.func 229) #[] #[]) := hc 3
  have c4 : w1.cell? ⟨B + 1 + 1 + 1, 4, none⟩ = some (.func (.func 231) #[] #[]) := hc 4
  have c5 : w1.cell? ⟨B + 1 + 1 + 1, 5, none⟩ = some (.func (.func 232) #[] #[]) := hc 5
  have c6 : w1.cell? ⟨B + 1 + 1 + 1, 6, none⟩ = some (.string ⟨#[98]⟩) := hc 6
  have HB := Lib.hid (ext_alloc hb)
  have HK := Lib.hid hK
  have hBl : w.heap.size < B := by simp at hB; omega
  have hBn : B + 1 + 1 + 1 ≠ w.heap.size := by simp at hB; omega
  have hBn' : w.heap.size ≠ B + 1 + 1 + 1 := by simp at hB; omega
  clear hc f hb hK
  go_wp2_with fail
  go_region_held3 (fun w' => w'.cell? ⟨B + 1 + 1 + 1, 0, none⟩ = some (.int .i64 1) ∧ w'.cell? ⟨B + 1 + 1 + 1, 1, none⟩ = some (.int .i64 128) ∧ w'.cell? ⟨B + 1 + 1 + 1, 2, none⟩ = some (.func (.func 151) #[] #[]) ∧ w'.cell? ⟨B + 1 + 1 + 1, 3, none⟩ = some (.func (.func 229) #[] #[]) ∧ w'.cell? ⟨B + 1 + 1 + 1, 4, none⟩ = some (.func (.func 231) #[] #[]) ∧ w'.cell? ⟨B + 1 + 1 + 1, 5, none⟩ = some (.func (.func 232) #[] #[]) ∧ w'.cell? ⟨B + 1 + 1 + 1, 6, none⟩ = some (.string ⟨#[98]⟩)) (go_keep) (fail)
  go_wp2_with fail
  refine bodyPost_ret (v := .tuple #[.agg (kd0 B), .bool false]) (by simp [results, Tryz.results142, go_sem, g0, g1, g2, g3, g4, g5, g6, kd0]) rfl (OfPost.mk (of_drew (of_step hBl (of_step hBl (of_step hBl (of_step hBl (of_step hBl (of_step hBl (of_step hBl ⟨HK.out, HB.out⟩ _ _) _ _) _ _) _ _) _ _) _ _) _ _)))

set_option maxHeartbeats 1000000 in
set_option maxRecDepth 100000 in
theorem val_of1_yes (w : World) :
    Calls Tryz.prog 142 #[.int .i64 1, .int .i64 0] w (OfPost kd1 true w) := by
  go_enter Tryz.func142, Tryz.ntmps142
  go_wp2_with fail
  refine (val_kinds' _).mono ?_
  rintro e w1 ⟨B, rfl, hB, hK, hc, hb⟩
  have f := fun i => (boxN hb i).2
  have f0 := f 0
  have f1 := f 1
  have f2 := f 2
  have f3 := f 3
  have f4 := f 4
  have f5 := f 5
  have f6 := f 6
  have g0 : w1.cell? ⟨w.heap.size, 0, none⟩ = some (.int .i64 0) := (boxN hb 0).1
  have g1 : w1.cell? ⟨w.heap.size, 1, none⟩ = some (.int .i64 0) := (boxN hb 1).1
  have g2 : w1.cell? ⟨w.heap.size, 2, none⟩ = some (.nilFunc) := (boxN hb 2).1
  have g3 : w1.cell? ⟨w.heap.size, 3, none⟩ = some (.nilFunc) := (boxN hb 3).1
  have g4 : w1.cell? ⟨w.heap.size, 4, none⟩ = some (.nilFunc) := (boxN hb 4).1
  have g5 : w1.cell? ⟨w.heap.size, 5, none⟩ = some (.nilFunc) := (boxN hb 5).1
  have g6 : w1.cell? ⟨w.heap.size, 6, none⟩ = some (.string ⟨#[]⟩) := (boxN hb 6).1
  have c0 : w1.cell? ⟨B + 1 + 1 + 1, 7, none⟩ = some (.int .i64 0) := hc 7
  have c1 : w1.cell? ⟨B + 1 + 1 + 1, 8, none⟩ = some (.int .i64 0) := hc 8
  have c2 : w1.cell? ⟨B + 1 + 1 + 1, 9, none⟩ = some (.func (.func 233) #[] #[]) := hc 9
  have c3 : w1.cell? ⟨B + 1 + 1 + 1, 10, none⟩ = some (.func (.func 275) #[] #[.pointer (some ⟨B, 0, none⟩)]) := hc 10
  have c4 : w1.cell? ⟨B + 1 + 1 + 1, 11, none⟩ = some (.func (.func 236) #[] #[]) := hc 11
  have c5 : w1.cell? ⟨B + 1 + 1 + 1, 12, none⟩ = some (.func (.func 238) #[] #[]) := hc 12
  have c6 : w1.cell? ⟨B + 1 + 1 + 1, 13, none⟩ = some (.string ⟨#[114]⟩) := hc 13
  have HB := Lib.hid (ext_alloc hb)
  have HK := Lib.hid hK
  have hBl : w.heap.size < B := by simp at hB; omega
  have hBn : B + 1 + 1 + 1 ≠ w.heap.size := by simp at hB; omega
  have hBn' : w.heap.size ≠ B + 1 + 1 + 1 := by simp at hB; omega
  clear hc f hb hK
  go_wp2_with fail
  go_region_held3 (fun w' => w'.cell? ⟨B + 1 + 1 + 1, 7, none⟩ = some (.int .i64 0) ∧ w'.cell? ⟨B + 1 + 1 + 1, 8, none⟩ = some (.int .i64 0) ∧ w'.cell? ⟨B + 1 + 1 + 1, 9, none⟩ = some (.func (.func 233) #[] #[]) ∧ w'.cell? ⟨B + 1 + 1 + 1, 10, none⟩ = some (.func (.func 275) #[] #[.pointer (some ⟨B, 0, none⟩)]) ∧ w'.cell? ⟨B + 1 + 1 + 1, 11, none⟩ = some (.func (.func 236) #[] #[]) ∧ w'.cell? ⟨B + 1 + 1 + 1, 12, none⟩ = some (.func (.func 238) #[] #[]) ∧ w'.cell? ⟨B + 1 + 1 + 1, 13, none⟩ = some (.string ⟨#[114]⟩)) (go_keep) (fail)
  go_wp2_with fail
  refine bodyPost_ret (v := .tuple #[.agg (kd1 B), .bool true]) (by simp [results, Tryz.results142, go_sem, g0, g1, g2, g3, g4, g5, g6, kd1]) rfl (OfPost.mk (of_drew (of_step hBl (of_step hBl (of_step hBl (of_step hBl (of_step hBl (of_step hBl (of_step hBl ⟨HK.out, HB.out⟩ _ _) _ _) _ _) _ _) _ _) _ _) _ _)))

end Go.Proofs.YtbiadennhnokhaaGreatDoor
