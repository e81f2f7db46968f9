import Derived.Test.YtbiadennhnokhaaGreatDoorZ05
namespace Go.Proofs.YtbiadennhnokhaaGreatDoor
open Go.RowKit

set_option maxHeartbeats 1000000 in
set_option maxRecDepth 100000 in
theorem val_of0_low (n : Int) (w : World) (h1 : n < 1) :
    Calls Tryz.prog 142 #[.int .i64 0, .int .i64 n] w (OfPost kd0 false w) := by
  have hd : decide (1 ≤ n) = false := by simp; omega
  go_enter Tryz.func142, Tryz.ntmps142
  go_wp2_with fail
  refine (val_kinds' _).mono ?_
  rintro e w1 ⟨B, rfl, hB, hK, hc, hb⟩
  have f := fun i => (boxN hb i).2
  have f0 := f 0
  have f1 := f 1
  have f2 := f 2
  have f3 := f 3
  have f4 := f 4
  have f5 := f 5
  have f6 := f 6
  have g0 : w1.cell? ⟨w.heap.size, 0, none⟩ = some (.int .i64 0) := (boxN hb 0).1
  have g1 : w1.cell? ⟨w.heap.size, 1, none⟩ = some (.int .i64 0) := (boxN hb 1).1
  have g2 : w1.cell? ⟨w.heap.size, 2, none⟩ = some (.nilFunc) := (boxN hb 2).1
  have g3 : w1.cell? ⟨w.heap.size, 3, none⟩ = some (.nilFunc) := (boxN hb 3).1
  have g4 : w1.cell? ⟨w.heap.size, 4, none⟩ = some (.nilFunc) := (boxN hb 4).1
  have g5 : w1.cell? ⟨w.heap.size, 5, none⟩ = some (.nilFunc) := (boxN hb 5).1
  have g6 : w1.cell? ⟨w.heap.size, 6, none⟩ = some (.string ⟨#[]⟩) := (boxN hb 6).1
  have c0 : w1.cell? ⟨B + 1 + 1 + 1, 0, none⟩ = some (.int .i64 1) := hc 0
  have c1 : w1.cell? ⟨B + 1 + 1 + 1, 1, none⟩ = some (.int .i64 128) := hc 1
  have c2 : w1.cell? ⟨B + 1 + 1 + 1, 2, none⟩ = some (.func (.func 151) #[] #[]) := hc 2
  have c3 : w1.cell? ⟨B + 1 + 1 + 1, 3, none⟩ = some (.func (.func 229) #[] #[]) := hc 3
  have c4 : w1.cell? ⟨B + 1 + 1 + 1, 4, none⟩ = some (.func (.func 231) #[] #[]) := hc 4
  have c5 : w1.cell? ⟨B + 1 + 1 + 1, 5, none⟩ = some (.func (.func 232) #[] #[]) := hc 5
  have c6 : w1.cell? ⟨B + 1 + 1 + 1, 6, none⟩ = some (.string ⟨#[98]⟩) := hc 6
  have HB := Lib.hid (ext_alloc hb)
  have HK := Lib.hid hK
  have hBl : w.heap.size < B := by simp at hB; omega
  have hBn : B + 1 + 1 + 1 ≠ w.heap.size := by simp at hB; omega
  have hBn' : w.heap.size ≠ B + 1 + 1 + 1 := by simp at hB; omega
  clear hc f hb hK
  go_wp2_with fail
  go_region
  go_wp2_with fail
  refine bodyPost_ret (v := .tuple #[.agg (kd0 B), .bool false]) (by simp [results, Tryz.results142, go_sem, g0, g1, g2, g3, g4, g5, g6, kd0]) rfl (OfPost.mk (of_drew (of_step hBl (of_step hBl (of_step hBl (of_step hBl (of_step hBl (of_step hBl (of_step hBl ⟨HK.out, HB.out⟩ _ _) _ _) _ _) _ _) _ _) _ _) _ _)))

set_option maxHeartbeats 1000000 in
set_option maxRecDepth 100000 in
theorem val_of1_low (n : Int) (w : World) (h1 : n < 0) :
    Calls Tryz.prog 142 #[.int .i64 1, .int .i64 n] w (OfPost kd1 false w) := by
  have hd : decide (0 ≤ n) = false := by simp; omega
  go_enter Tryz.func142, Tryz.ntmps142
  go_wp2_with fail
  refine (val_kinds' _).mono ?_
  rintro e w1 ⟨B, rfl, hB, hK, hc, hb⟩
  have f := fun i => (boxN hb i).2
  have f0 := f 0
  have f1 := f 1
  have f2 := f 2
  have f3 := f 3
  have f4 := f 4
  have f5 := f 5
  have f6 := f 6
  have g0 : w1.cell? ⟨w.heap.size, 0, none⟩ = some (.int .i64 0) := (boxN hb 0).1
  have g1 : w1.cell? ⟨w.heap.size, 1, none⟩ = some (.int .i64 0) := (boxN hb 1).1
  have g2 : w1.cell? ⟨w.heap.size, 2, none⟩ = some (.nilFunc) := (boxN hb 2).1
  have g3 : w1.cell? ⟨w.heap.size, 3, none⟩ = some (.nilFunc) := (boxN hb 3).1
  have g4 : w1.cell? ⟨w.heap.size, 4, none⟩ = some (.nilFunc) := (boxN hb 4).1
  have g5 : w1.cell? ⟨w.heap.size, 5, none⟩ = some (.nilFunc) := (boxN hb 5).1
  have g6 : w1.cell? ⟨w.heap.size, 6, none⟩ = some (.string ⟨#[]⟩) := (boxN hb 6).1
  have c0 : w1.cell? ⟨B + 1 + 1 + 1, 7, none⟩ = some (.int .i64 0) := hc 7
  have c1 : w1.cell? ⟨B + 1 + 1 + 1, 8, none⟩ = some (.int .i64 0) := hc 8
  have c2 : w1.cell? ⟨B + 1 + 1 + 1, 9, none⟩ = some (.func (.func 233) #[] #[]) := hc 9
  have c3 : w1.cell? ⟨B + 1 + 1 + 1, 10, none⟩ = some (.func (.func 275) #[] #[.pointer (some ⟨B, 0, none⟩)]) := hc 10
  have c4 : w1.cell? ⟨B + 1 + 1 + 1, 11, none⟩ = some (.func (.func 236) #[] #[]) := hc 11
  have c5 : w1.cell? ⟨B + 1 + 1 + 1, 12, none⟩ = some (.func (.func 238) #[] #[]) := hc 12
  have c6 : w1.cell? ⟨B + 1 + 1 + 1, 13, none⟩ = some (.string ⟨#[114]⟩) := hc 13
  have HB := Lib.hid (ext_alloc hb)
  have HK := Lib.hid hK
  have hBl : w.heap.size < B := by simp at hB; omega
  have hBn : B + 1 + 1 + 1 ≠ w.heap.size := by simp at hB; omega
  have hBn' : w.heap.size ≠ B + 1 + 1 + 1 := by simp at hB; omega
  clear hc f hb hK
  go_wp2_with fail
  go_region
  go_wp2_with fail
  refine bodyPost_ret (v := .tuple #[.agg (kd1 B), .bool false]) (by simp [results, Tryz.results142, go_sem, g0, g1, g2, g3, g4, g5, g6, kd1]) rfl (OfPost.mk (of_drew (of_step hBl (of_step hBl (of_step hBl (of_step hBl (of_step hBl (of_step hBl (of_step hBl ⟨HK.out, HB.out⟩ _ _) _ _) _ _) _ _) _ _) _ _) _ _)))

set_option maxHeartbeats 1000000 in
set_option maxRecDepth 100000 in
theorem val_of2_low (n : Int) (w : World) (h1 : n < 0) :
    Calls Tryz.prog 142 #[.int .i64 2, .int .i64 n] w (OfPost kd2 false w) := by
  have hd : decide (0 ≤ n) = false := by simp; omega
  go_enter Tryz.func142, Tryz.ntmps142
  go_wp2_with fail
  refine (val_kinds' _).mono ?_
  rintro e w1 ⟨B, rfl, hB, hK, hc, hb⟩
  have f := fun i => (boxN hb i).2
  have f0 := f 0
  have f1 := f 1
  have f2 := f 2
  have f3 := f 3
  have f4 := f 4
  have f5 := f 5
  have f6 := f 6
  have g0 : w1.cell? ⟨w.heap.size, 0, none⟩ = some (.int .i64 0) := (boxN hb 0).1
  have g1 : w1.cell? ⟨w.heap.size, 1, none⟩ = some (.int .i64 0) := (boxN hb 1).1
  have g2 : w1.cell? ⟨w.heap.size, 2, none⟩ = some (.nilFunc) := (boxN hb 2).1
  have g3 : w1.cell? ⟨w.heap.size, 3, none⟩ = some (.nilFunc) := (boxN hb 3).1
  have g4 : w1.cell? ⟨w.heap.size, 4, none⟩ = some (.nilFunc) := (boxN hb 4).1
  have g5 : w1.cell? ⟨w.heap.size, 5, none⟩ = some (.nilFunc) := (boxN hb 5).1
  have g6 : w1.cell? ⟨w.heap.size, 6, none⟩ = some (.string ⟨#[]⟩) := (boxN hb 6).1
  have c0 : w1.cell? ⟨B + 1 + 1 + 1, 14, none⟩ = some (.int .i64 0) := hc 14
  have c1 : w1.cell? ⟨B + 1 + 1 + 1, 15, none⟩ = some (.int .i64 0) := hc 15
  have c2 : w1.cell? ⟨B + 1 + 1 + 1, 16, none⟩ = some (.func (.func 239) #[] #[]) := hc 16
  have c3 : w1.cell? ⟨B + 1 + 1 + 1, 17, none⟩ = some (.func (.func 275) #[] #[.pointer (some ⟨B + 1, 0, none⟩)]) := hc 17
  have c4 : w1.cell? ⟨B + 1 + 1 + 1, 18, none⟩ = some (.func (.func 240) #[] #[]) := hc 18
  have c5 : w1.cell? ⟨B + 1 + 1 + 1, 19, none⟩ = some (.func (.func 242) #[] #[]) := hc 19
  have c6 : w1.cell? ⟨B + 1 + 1 + 1, 20, none⟩ = some (.string ⟨#[115]⟩) := hc 20
  have HB := Lib.hid (ext_alloc hb)
  have HK := Lib.hid hK
  have hBl : w.heap.size < B := by simp at hB; omega
  have hBn : B + 1 + 1 + 1 ≠ w.heap.size := by simp at hB; omega
  have hBn' : w.heap.size ≠ B + 1 + 1 + 1 := by simp at hB; omega
  clear hc f hb hK
  go_wp2_with fail
  go_region
  go_wp2_with fail
  refine bodyPost_ret (v := .tuple #[.agg (kd2 B), .bool false]) (by simp [results, Tryz.results142, go_sem, g0, g1, g2, g3, g4, g5, g6, kd2]) rfl (OfPost.mk (of_drew (of_step hBl (of_step hBl (of_step hBl (of_step hBl (of_step hBl (of_step hBl (of_step hBl ⟨HK.out, HB.out⟩ _ _) _ _) _ _) _ _) _ _) _ _) _ _)))

set_option maxHeartbeats 1000000 in
set_option maxRecDepth 100000 in
theorem val_of3_low (n : Int) (w : World) (h1 : n < 0) :
    Calls Tryz.prog 142 #[.int .i64 3, .int .i64 n] w (OfPost kd3 false w) := by
  have hd : decide (0 ≤ n) = false := by simp; omega
  go_enter Tryz.func142, Tryz.ntmps142
  go_wp2_with fail
  refine (val_kinds' _).mono ?_
  rintro e w1 ⟨B, rfl, hB, hK, hc, hb⟩
  have f := fun i => (boxN hb i).2
  have f0 := f 0
  have f1 := f 1
  have f2 := f 2
  have f3 := f 3
  have f4 := f 4
  have f5 := f 5
  have f6 := f 6
  have g0 : w1.cell? ⟨w.heap.size, 0, none⟩ = some (.int .i64 0) := (boxN hb 0).1
  have g1 : w1.cell? ⟨w.heap.size, 1, none⟩ = some (.int .i64 0) := (boxN hb 1).1
  have g2 : w1.cell? ⟨w.heap.size, 2, none⟩ = some (.nilFunc) := (boxN hb 2).1
  have g3 : w1.cell? ⟨w.heap.size, 3, none⟩ = some (.nilFunc) := (boxN hb 3).1
  have g4 : w1.cell? ⟨w.heap.size, 4, none⟩ = some (.nilFunc) := (boxN hb 4).1
  have g5 : w1.cell? ⟨w.heap.size, 5, none⟩ = some (.nilFunc) := (boxN hb 5).1
  have g6 : w1.cell? ⟨w.heap.size, 6, none⟩ = some (.string ⟨#[]⟩) := (boxN hb 6).1
  have c0 : w1.cell? ⟨B + 1 + 1 + 1, 21, none⟩ = some (.int .i64 0) := hc 21
  have c1 : w1.cell? ⟨B + 1 + 1 + 1, 22, none⟩ = some (.int .i64 0) := hc 22
  have c2 : w1.cell? ⟨B + 1 + 1 + 1, 23, none⟩ = some (.func (.func 243) #[] #[]) := hc 23
  have c3 : w1.cell? ⟨B + 1 + 1 + 1, 24, none⟩ = some (.func (.func 275) #[] #[.pointer (some ⟨B + 1 + 1, 0, none⟩)]) := hc 24
  have c4 : w1.cell? ⟨B + 1 + 1 + 1, 25, none⟩ = some (.func (.func 244) #[] #[]) := hc 25
  have c5 : w1.cell? ⟨B + 1 + 1 + 1, 26, none⟩ = some (.func (.func 245) #[] #[]) := hc 26
  have c6 : w1.cell? ⟨B + 1 + 1 + 1, 27, none⟩ = some (.string ⟨#[]⟩) := hc 27
  have HB := Lib.hid (ext_alloc hb)
  have HK := Lib.hid hK
  have hBl : w.heap.size < B := by simp at hB; omega
  have hBn : B + 1 + 1 + 1 ≠ w.heap.size := by simp at hB; omega
  have hBn' : w.heap.size ≠ B + 1 + 1 + 1 := by simp at hB; omega
  clear hc f hb hK
  go_wp2_with fail
  go_region
  go_wp2_with fail
  refine bodyPost_ret (v := .tuple #[.agg (kd3 B), .bool false]) (by simp [results, Tryz.results142, go_sem, g0, g1, g2, g3, g4, g5, g6, kd3]) rfl (OfPost.mk (of_drew (of_step hBl (of_step hBl (of_step hBl (of_step hBl (of_step hBl (of_step hBl (of_step hBl ⟨HK.out, HB.out⟩ _ _) _ _) _ _) _ _) _ _) _ _) _ _)))

end Go.Proofs.YtbiadennhnokhaaGreatDoor
