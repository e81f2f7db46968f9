import Derived.RangeFuncNested
import Derived.RangeFuncBound
import Derived.RangeFuncCalls
import Derived.RangeFuncLeaves
import Derived.Shelf.Abstract
import Derived.Shelf.RegionOpen
import Derived.WalkKit
import Derived.OwnWalkIn
import Derived.TacticsInMore
import Derived.LoopNIn
import Derived.LoopIn
import Derived.Test.YtlbcfmhpkcpmaaaGreatDoorRefA
namespace Go.Proofs.YtlbcfmhpkcpmaaaGreatDoor
open Go.RowKit Go.Shelf
attribute [local go_sem] Oper.semAt_some

/-- what has come when k rounds are over -/
def upto {α : Type} (f : Nat → α) (k : Nat) : List α := (List.range k).map f
theorem upto_succ {α : Type} (f : Nat → α) (k : Nat) : upto f (k + 1) = upto f k ++ [f k] := by simp [upto, List.range_succ]
theorem upto_length {α : Type} (f : Nat → α) (k : Nat) : (upto f k).length = k := by simp [upto]
abbrev BX := Int × Ch
def encB (x : BX) : Array Value := #[.int .i64 x.1, .agg #[.int .i64 x.2.1, .string x.2.2]]
/-- the k-th from the end -/
def back (l : List Ch) (k : Nat) : BX := ((l.length : Int) - 1 - (k : Int), l.getD (l.length - 1 - k) (0, ⟨#[]⟩))

/-- what a round keeps: all cells below N but those of block T -/
def KpB (N T : Nat) (A B : World) : Prop := ∀ p o, p < N → p ≠ T → B.cell? ⟨p, o, none⟩ = A.cell? ⟨p, o, none⟩
theorem KpB.trans {N T : Nat} {A B C : World} (h : KpB N T A B) (k : KpB N T B C) : KpB N T A C := fun p o h1 h2 => (k p o h1 h2).trans (h p o h1 h2)
theorem KpB.of_below {N T : Nat} {A B : World} (h : Below N A B) : KpB N T A B := fun p o h1 _ => h.cell (p := ⟨p, o, none⟩) h1
theorem KpB.putObj {N T : Nat} {w : World} (hn : N ≤ w.heap.size) (W : World) (l : Nat) (o o' : Obj) (hl : w.heap.size ≤ l) (h : W.heap[l]? = some o) (_ : o.isCells = false) (_ : o.isWalk = false) : KpB N T W (W.putObj l o') :=
  KpB.of_below ((Below.refl N W).grown (grownBy_putObj' W l o') (by have := (Array.getElem?_eq_some_iff.1 h).1; omega) (fun k e => by cases e; omega))
theorem SlR.keeps {W0 W : World} {v : Value} {n : Nat} {xs : List Value} (h : SlR W0 v n xs) (hk : ∀ p o, p < W0.heap.size → W.cell? ⟨p, o, none⟩ = W0.cell? ⟨p, o, none⟩) : SlR W v n xs := by
  obtain ⟨a, cap, hv, h1, h2, h3, h4⟩ := h
  refine ⟨a, cap, hv, h1, h2, h3, fun hn => ?_⟩
  obtain ⟨b, o, ha, hc⟩ := h4 hn
  refine ⟨b, o, ha, fun j u hj => ?_⟩
  have := hc j u hj
  exact (hk _ _ (cell_lt this)).trans this

set_option maxRecDepth 100000 in
set_option maxHeartbeats 2000000 in
theorem back1_in (F : Fence) (n : Nat) (h8 : F.fn 60) (hro : F.round = none) (hn : 1 ≤ n) (lp Bs N T : Nat) (v : Value) (l : List Ch) (hlen : l.length ≤ 1000000) (J Jx : List BX → World → Prop)
    (hY : ∀ pre x W, J pre W → pre.length < l.length → YieldAt F (n - 1) Tryz.prog lp (encB x) W fun e W' =>
      (e = .returned (.bool true) ∧ J (pre ++ [x]) W' ∧ KpB N T W W') ∨ (e = .returned (.bool false) ∧ Jx (pre ++ [x]) W'))
    (W0 W : World) (hN : W0.heap.size ≤ N) (hT : W0.heap.size ≤ T) (hBs : Bs < N) (hBT : Bs ≠ T) (hB : ∀ p o, p < W0.heap.size → W.cell? ⟨p, o, none⟩ = W0.cell? ⟨p, o, none⟩) (hc : W.cell? ⟨Bs, 0, none⟩ = some v) (hs : SlR W0 v l.length (chs l)) (h0 : J [] W) :
    CallsIn F n Tryz.prog 60 #[.func (.yield lp) #[] #[], .pointer (some ⟨Bs, 0, none⟩)] W fun e W' => (∃ v, e = .returned v) ∧
      ((∃ ys, ys = upto (back l) l.length ∧ J ys W') ∨ (∃ pre, (∃ k, k ≤ l.length ∧ pre = upto (back l) k) ∧ Jx pre W')) := by
  refine callsIn_of_wp Tryz.func60 rfl h8 ?_ hro
  simp only [Tryz.ntmps60, List.size_toArray, List.length_cons, List.length_nil, Nat.reduceAdd, Nat.reduceSub, Array.replicate_succ, Array.replicate_zero, List.push_toArray, List.append_toArray, List.nil_append, List.cons_append]
  obtain ⟨a, cap, rfl, hcp, hm⟩ := hs.shape
  unfold maxLen at hm
  have HS := Lib.hid hs
  clear hs
  have hw0 : IntKind.i64.wrap ((l.length : Int) - 1) = (l.length : Int) - 1 := IntWalk.i64_in _ (by omega)
  gi_wp2
  gi_loopw [3] (fun i wr => ∃ k : Nat, k ≤ l.length ∧ i = .int .i64 ((l.length : Int) - 1 - (k : Int)) ∧ J (upto (back l) k) wr ∧ KpB N T W wr)
    (fun i _ => (intOf i + 1).toNat)
  case atStart => exact ⟨0, Nat.zero_le _, by simp, h0, fun _ _ _ _ => rfl⟩
  case round =>
    obtain ⟨k, hk, rfl, hJs, hnx⟩ := hrel
    have hc2 := (hnx Bs 0 hBs hBT).trans hc
    by_cases hlt : k < l.length
    · obtain ⟨fn, tmps, assign, body, hy, hR⟩ := hY _ (back l k) wr hJs (by rw [upto_length]; exact hlt)
      have hlt2 : l.length - 1 - k < l.length := by omega
      obtain ⟨b, o, rfl, d0, d1⟩ := (HS.out.keeps (fun p o hp => (hnx p o (by omega) (by omega)).trans (hB p o hp))).ch hlt2
      have hidx : (l.length : Int) - 1 - (k : Int) = ((l.length - 1 - k : Nat) : Int) := by omega
      have hbk : back l k = (((l.length - 1 - k : Nat) : Int), l[l.length - 1 - k]) := by
        unfold back
        rw [hidx, List.getD, List.getElem?_eq_getElem hlt2]; rfl
      rw [hbk] at hy
      unfold encB at hy
      generalize l[l.length - 1 - k] = c at d0 d1 hy
      obtain ⟨t, s⟩ := c
      dsimp only at hy d0 d1
      rw [hidx]
      have q1 : (0 : Int) ≤ ((l.length - 1 - k : Nat) : Int) := by omega
      have q2 : ((l.length - 1 - k : Nat) : Int) < (l.length : Int) := by omega
      have hw : IntKind.i64.wrap (((l.length - 1 - k : Nat) : Int) - 1) = ((l.length - 1 - k : Nat) : Int) - 1 := IntWalk.i64_in _ (by omega)
      generalize hjj : l.length - 1 - k = jj at *
      gi_wp2
      refine hR.mono ?_
      rintro e W3 (⟨rfl, hJ3, hk3⟩ | ⟨rfl, hJx3⟩)
      · gi_wp2
        go_roundw
        case rel => exact ⟨k + 1, by omega, by go_num, by rw [upto_succ]; exact hJ3, hnx.trans hk3⟩
        case measure => simp [intOf]
      · gi_wp2
        refine bodyPost_ret (results_none rfl _ _ _) rfl ?_
        exact ⟨⟨_, rfl⟩, .inr ⟨_, ⟨k + 1, by omega, (upto_succ _ _).symm⟩, hJx3⟩⟩
    · obtain rfl : k = l.length := by omega
      gi_wp2
      go_end0
      exact ⟨⟨_, rfl⟩, .inl ⟨_, rfl, hJs⟩⟩

/-- slices.Backward's closure, whatever the slice -/
theorem back_stops (F : Fence) (n : Nat) (h8 : F.fn 60) (hro : F.round = none) (hn : 1 ≤ n) (Bs N T : Nat) (v : Value) (l : List Ch) (hlen : l.length ≤ 1000000) (w : World) (hBs : Bs < N) (hBT : Bs ≠ T) (hNw : N ≤ w.heap.size)
    (hc : w.cell? ⟨Bs, 0, none⟩ = some v) (W0 : World) (hN : W0.heap.size ≤ N) (hT : W0.heap.size ≤ T) (hB0 : ∀ p o, p < W0.heap.size → w.cell? ⟨p, o, none⟩ = W0.cell? ⟨p, o, none⟩) (hs : SlR W0 v l.length (chs l)) :
    SeqStopsK F n Tryz.prog 60 #[.pointer (some ⟨Bs, 0, none⟩)] encB (KpB N T) (fun ys => ys = upto (back l) l.length)
      (fun pre => ∃ k, k ≤ l.length ∧ pre = upto (back l) k) l.length w := fun lp J Jx W hW _ _ hY h0 => by
  have hc' := (hW.cell (p := ⟨Bs, 0, none⟩) (by show Bs < _; omega)).trans hc
  exact back1_in F n h8 hro hn lp Bs N T v l hlen J Jx hY W0 W hN hT hBs hBT (fun p o hp => (hW.cell (p := ⟨p, o, none⟩) (by show p < _; omega)).trans (hB0 p o hp)) hc' hs h0

set_option maxHeartbeats 1000000 in
theorem back_in (a : Option Addr) (m cap : Nat) (w : World) :
    Calls Tryz.prog 29 #[.slice a m cap] w fun e w' => e = .returned (.func (.func 60) #[] #[.pointer (some ⟨w.heap.size, 0, none⟩)]) ∧ w' = w.alloc (.cells #[.slice a m cap] 22) := by
  go_enter Tryz.func29, Tryz.ntmps29
  go_wp2_with fail
  go_ret
  exact ⟨rfl, rfl⟩
end Go.Proofs.YtlbcfmhpkcpmaaaGreatDoor
