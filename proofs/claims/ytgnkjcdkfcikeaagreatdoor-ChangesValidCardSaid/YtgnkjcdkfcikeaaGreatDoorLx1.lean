import Derived.Test.YtgnkjcdkfcikeaaGreatDoorCp2
import Derived.RangeFuncNested
import Derived.RangeFuncCalls
import Derived.OrdersHeld
import Derived.OrdersIn
import Derived.RegionTactic
import Derived.RangeFuncBound
import Derived.RangeFuncLeaves
import Derived.Shelf.Abstract
import Derived.Shelf.RegionOpen
import Derived.WalkKit
import Derived.OwnWalkIn
import Derived.TacticsInMore
import Derived.LoopNIn
import Derived.LoopIn
import Derived.Test.YtgnkjcdkfcikeaaGreatDoorCw13
import Derived.Test.YtgnkjcdkfcikeaaGreatDoorPs
/- Plain: the words of a text, byte by byte. -/
namespace Go.Proofs.YtgnkjcdkfcikeaaGreatDoor

def curL (cur : Bs) : List Bs := if cur = [] then [] else [cur]
/-- k bytes are behind; ws are the words so far, cur the one that is not ended -/
structure ScSt (s : Bs) (k : Nat) (ws : List Wd) (cur : Bs) : Prop where
  t : ∃ d, ws.map (·.1) = d ++ curL cur ∧ wordsL s = d ++ wrd (s.drop k) cur
  c : cur ≠ [] → ∃ ini x, ws = ini ++ [x] ∧ x.1 = cur ∧ x.2.1 = ((k - cur.length : Nat) : Int)
  e : cur.length ≤ k ∧ cur = (s.take k).drop (k - cur.length)
  l : ws.length ≤ k
theorem ScSt.start (s : Bs) : ScSt s 0 [] [] := ⟨⟨[], rfl, rfl⟩, fun h => absurd rfl h, ⟨Nat.le_refl _, rfl⟩, Nat.le_refl _⟩
theorem ScSt.white {s : Bs} {k : Nat} {ws : List Wd} {cur : Bs} (h : ScSt s k ws cur) (hk : k < s.length) (hw : isW s[k] = true) : ScSt s (k + 1) ws [] := by
  obtain ⟨d, h1, h2⟩ := h.t
  refine ⟨⟨d ++ curL cur, by rw [h1]; simp [curL], ?_⟩, fun h => absurd rfl h, ⟨Nat.zero_le _, by simp⟩, by have := h.l; omega⟩
  rw [h2, List.drop_eq_getElem_cons hk, wrd, if_pos hw, List.append_assoc]
  congr 1
  unfold curL
  split <;> rfl
theorem ScSt.new {s : Bs} {k : Nat} {ws : List Wd} (h : ScSt s k ws []) (hk : k < s.length) (hw : isW s[k] = false) (p q : Int) : ScSt s (k + 1) (ws ++ [([s[k]], (k : Int), p, q)]) [s[k]] := by
  obtain ⟨d, h1, h2⟩ := h.t
  refine ⟨⟨d, ?_, ?_⟩, fun _ => ⟨ws, _, rfl, rfl, ?_⟩, ⟨by simp, ?_⟩, by have := h.l; simp; omega⟩
  · rw [List.map_append, h1]
    simp [curL]
  · rw [h2, List.drop_eq_getElem_cons hk, wrd, if_neg (by rw [hw]; simp)]
    rfl
  · simp
  · rw [List.take_succ_eq_append_getElem hk, List.length_singleton, Nat.add_sub_cancel, List.drop_append_of_le_length (by simp; omega), List.drop_of_length_le (by simp; omega)]
    rfl
theorem ScSt.more {s : Bs} {k : Nat} {ini : List Wd} {x : Wd} {cur : Bs} (h : ScSt s k (ini ++ [x]) cur) (hx : x.1 = cur) (hc : cur ≠ []) (hk : k < s.length) (hw : isW s[k] = false) (ho : x.2.1 = ((k - cur.length : Nat) : Int)) :
    ScSt s (k + 1) (ini ++ [(cur ++ [s[k]], x.2)]) (cur ++ [s[k]]) := by
  obtain ⟨d, h1, h2⟩ := h.t
  obtain ⟨e1, e2⟩ := h.e
  refine ⟨⟨d, ?_, ?_⟩, fun _ => ⟨ini, _, rfl, rfl, ?_⟩, ⟨by simp; omega, ?_⟩, by have := h.l; simp at this ⊢; omega⟩
  · rw [List.map_append, List.map_cons, List.map_nil] at h1 ⊢
    have : curL cur = [cur] := by unfold curL; rw [if_neg hc]
    rw [this, hx] at h1
    have h3 := List.append_inj_left' h1 rfl
    rw [h3]
    unfold curL
    rw [if_neg (by simp)]
  · rw [h2, List.drop_eq_getElem_cons hk, wrd, if_neg (by rw [hw]; simp)]
  · rw [ho]
    simp
  · rw [List.take_succ_eq_append_getElem hk, List.length_append, List.length_singleton, show k + 1 - (cur.length + 1) = k - cur.length by omega, List.drop_append_of_le_length (by simp; omega), ← e2]
theorem ScSt.fin {s : Bs} {ws : List Wd} {cur : Bs} (h : ScSt s s.length ws cur) : ws.map (·.1) = wordsL s := by
  obtain ⟨d, h1, h2⟩ := h.t
  rw [h1, h2, List.drop_length, wrd]
  rfl
/-- the text of the word that is not ended, one byte further -/
theorem ScSt.text {s : Bs} {k : Nat} {ws : List Wd} {cur : Bs} (h : ScSt s k ws cur) (hk : k < s.length) : (s.take (k + 1)).drop (k - cur.length) = cur ++ [s[k]] := by
  obtain ⟨e1, e2⟩ := h.e
  rw [List.take_succ_eq_append_getElem hk, List.drop_append_of_le_length (by simp; omega), ← e2]
end Go.Proofs.YtgnkjcdkfcikeaaGreatDoor

/- A region that draws its order, in a round of a range over a function: its plain walk serves. -/
namespace Go.Proofs.YtgnkjcdkfcikeaaGreatDoor
open Go.RowKit

theorem opIn_of_wp {l n : Nat} {P : Program} {o : Oper} {a : Act} {w : World} {K K' : Act → World → Prop} {Q : Exit → Act → World → Prop} (hd : ∀ c, o.op ≠ .defer c) (h : o.wp P a w K Q) (hK : ∀ a w, K a w → K' a w) : o.wpIn (Fence.wide.inRound l) n P a w K' Q := by
  unfold Oper.wp at h
  unfold Oper.wpIn
  refine ⟨fun _ _ => trivial, ?_⟩
  rw [show (Fence.wide.inRound l).round = some l from rfl, Oper.semAt_eq _ _ o hd]
  generalize (execOp a.eval o).run P w = r at h
  cases r with
  | ok x w' =>
    cases x with
    | value v => exact hK _ _ h
    | skip => exact hK _ _ h
    | defer d => exact hK _ _ h
    | enter f args =>
      refine ⟨(fun h0 => by cases h0), (CallsIn.inRound l (callsIn_wide.2 h)).mono fun e w'' he => ?_⟩
      cases e with
      | returned v => exact hK _ _ he
      | panicked c => exact he
      | outgrown => exact he
    | row r args =>
      refine ⟨(fun h0 => by cases h0), fun c cs _ => ?_⟩
      obtain ⟨v, w2, hv, hs⟩ := h c cs
      exact ⟨v, w2, hK _ _ hv, stepsIn_wide.2 hs⟩
    | _ => exact h.elim
  | halt x w' =>
    cases x <;> exact h
theorem anyIn_of_any {l n : Nat} {P : Program} {md : Region.Mode} {ops : Array Oper} {Q : Exit → Act → World → Prop} (hd : ∀ (i : Nat) (o : Oper), ops[i]? = some o → ∀ c, o.op ≠ .defer c) (hl : ¬ LetsOut Q) :
    ∀ (fuel : Nat) (listed : Array Bool) (a : Act) (w : World), wpAny P md ops Q fuel listed a w → wpAnyIn (Fence.wide.inRound l) n P md ops Q fuel listed a w
  | 0, _, _, _, h => h
  | fuel + 1, listed, a, w, h => by
    refine ⟨h.1, fun i hi => ?_⟩
    have h2 := h.2 i hi
    unfold wpOp at h2
    unfold wpOpIn
    cases ho : ops[i]? with
    | none =>
      rw [ho] at h2
      exact anyIn_of_any hd hl fuel _ _ _ h2
    | some o =>
      rw [ho] at h2
      simp only at h2 ⊢
      split
      · rename_i hw
        rw [if_pos hw] at h2
        rcases h2 with h2 | ⟨-, h2⟩
        · exact opIn_of_wp (hd i o ho) h2 fun a w h => anyIn_of_any hd hl fuel _ _ _ h
        · exact absurd h2 hl
      · rename_i hw
        rw [if_neg hw] at h2
        exact ⟨fun _ _ => trivial, anyIn_of_any hd hl fuel _ _ _ h2⟩
end Go.Proofs.YtgnkjcdkfcikeaaGreatDoor

/- A range over an iterator that keeps its place in a box of its own; lexer.steps. -/
namespace Go.Proofs.YtgnkjcdkfcikeaaGreatDoor
open Go.RowKit Go.Shelf
attribute [local go_sem] Oper.semAt_some
set_option linter.unusedSimpArgs false

/-- all rows of cells stay, but for those of type T; so does what lies below B -/
structure TurnI (B : Nat) (T : TypeId) (W V : World) : Prop where
  os : V.os = W.os
  tape : V.tape = W.tape
  output : V.output = W.output
  size : W.heap.size ≤ V.heap.size
  low : ∀ b, b < B → V.heap[b]? = W.heap[b]?
  cells : ∀ (b : Nat) (C : Array Value) (T' : TypeId) (fr : Nat × Nat), T' ≠ T → W.heap[b]? = some (.cells C T' fr) → V.heap[b]? = some (.cells C T' fr)
/-- and so does what is no row -/
structure TurnJ (B : Nat) (T : TypeId) (W V : World) : Prop where
  i : TurnI B T W V
  others : ∀ (b : Nat) (o : Obj), o.isCells = false → W.heap[b]? = some o → V.heap[b]? = some o
/-- all rows of cells stay -/
structure Same0 (W V : World) : Prop where
  size : W.heap.size ≤ V.heap.size
  cells : ∀ (b : Nat) (C : Array Value) (T : TypeId) (fr : Nat × Nat), W.heap[b]? = some (.cells C T fr) → V.heap[b]? = some (.cells C T fr)
theorem TurnJ.drew (B : Nat) (T : TypeId) (W : World) (n : Nat) : TurnJ B T W (W.drewN n) := ⟨⟨rfl, rfl, rfl, Nat.le_refl _, fun _ _ => rfl, fun _ _ _ _ _ h => h⟩, fun _ _ _ h => h⟩
theorem TurnJ.below {B : Nat} {T : TypeId} {W V : World} (hB : B ≤ W.heap.size) (h : Below W.heap.size W V) : TurnJ B T W V :=
  ⟨⟨h.os, h.tape, h.output, h.size, fun b hb => h.block b (by omega), fun b C T' fr _ hb => by rw [h.block b (Array.getElem?_eq_some_iff.1 hb).1]; exact hb⟩, fun b o _ hb => by rw [h.block b (Array.getElem?_eq_some_iff.1 hb).1]; exact hb⟩
theorem TurnJ.trans {B : Nat} {T : TypeId} {X Y Z : World} (h : TurnJ B T X Y) (k : TurnJ B T Y Z) : TurnJ B T X Z :=
  ⟨⟨k.i.os.trans h.i.os, k.i.tape.trans h.i.tape, k.i.output.trans h.i.output, Nat.le_trans h.i.size k.i.size, fun b hb => (k.i.low b hb).trans (h.i.low b hb), fun b C T' fr hT hb => k.i.cells b C T' fr hT (h.i.cells b C T' fr hT hb)⟩, fun b o ho hb => k.others b o ho (h.others b o ho hb)⟩
theorem TurnJ.setCell {B : Nat} {T : TypeId} {W : World} {b : Nat} {C : Array Value} {fr : Nat × Nat} (hb : W.heap[b]? = some (.cells C T fr)) (hB : B ≤ b) (j : Nat) (u : Value) : TurnJ B T W (W.setCell ⟨b, j, none⟩ u) := by
  refine ⟨⟨rfl, rfl, rfl, by simp, fun i hi => Below.heap_setCell _ _ _ _ (by show i ≠ b; omega), fun i C' T' fr' hT hi => ?_⟩, fun i o ho hi => ?_⟩
  · have hne : i ≠ b := by
      rintro rfl
      rw [hb] at hi
      injection hi with hi
      injection hi with _ hi _
      exact hT hi.symm
    rw [Below.heap_setCell _ _ _ _ hne]
    exact hi
  · have hne : i ≠ b := by
      rintro rfl
      rw [hb] at hi
      injection hi with hi
      subst hi
      cases ho
    rw [Below.heap_setCell _ _ _ _ hne]
    exact hi
theorem TurnI.putObj {B : Nat} {T : TypeId} {W : World} {l : Nat} {o : Obj} (hl : W.heap[l]? = some o) (ho : o.isCells = false) (hB : B ≤ l) (o' : Obj) : TurnI B T W (W.putObj l o') := by
  have hlt := (Array.getElem?_eq_some_iff.1 hl).1
  have hg := grownBy_putObj' W l o'
  refine ⟨hg.os, hg.tape, hg.output, hg.size, fun b hb => World.putObj_heap_other (by omega), fun b C T' fr _ hb => ?_⟩
  have hne : b ≠ l := by
    rintro rfl
    rw [hl] at hb
    injection hb with hb
    subst hb
    cases ho
  rw [World.putObj_heap_other hne]
  exact hb
theorem Same0.putObj {W : World} {l : Nat} {o : Obj} (hl : W.heap[l]? = some o) (ho : o.isCells = false) (o' : Obj) : Same0 W (W.putObj l o') := by
  refine ⟨(grownBy_putObj' W l o').size, fun b C T' fr hb => ?_⟩
  have hne : b ≠ l := by
    rintro rfl
    rw [hl] at hb
    injection hb with hb
    subst hb
    cases ho
  rw [World.putObj_heap_other hne]
  exact hb

/-- ranging over an iterator whose rounds are numbered, which may write rows of type T of its own -/
theorem rangeN {F : Fence} {n : Nat} {P : Program} {g : Operand} {ps : Array Tmp} {assign body : Code} {Q : Exit → Act → World → Prop} {a : Act} {w : World}
    (hro : F.round = none) (h1 : 1 ≤ n) {gf : Nat} {lb : Array Value} (hg : a.eval g = .func (.func gf) #[] lb) (hFg : F.fn gf) (eg : ∀ args w, (callFunc gf args).run P w = .ok (.enter gf args) w)
    {encs : Nat → Array Value} {Kp : World → World → Prop} {N : Nat} {T : TypeId}
    (hiter : ∀ (l : Nat) (J : Nat → World → Prop) (W : World), Below w.heap.size w W → (∀ k X Y, J k X → TurnJ w.heap.size T X Y → J k Y) →
      (∀ k W1, J k W1 → k < N → YieldAt F (n - 1 - 1) P l (encs k) W1 fun e W' => e = .returned (.bool true) ∧ J (k + 1) W' ∧ Kp W1 W') → J 0 W →
      CallsIn F (n - 1) P gf (#[.func (.yield l) #[] #[]] ++ lb) W fun e W' => (∃ v, e = .returned v) ∧ J N W')
    (hKt : ∀ {A B C : World}, Kp A B → Kp B C → Kp A C) (hK0 : ∀ W V, Same0 W V → Kp W V) (hps : ∀ k, (encs k).size = ps.size)
    (I : Nat → World → Prop) (hI : ∀ k W V, I k W → TurnI w.heap.size T W V → I k V) (h0 : I 0 w)
    (hround : ∀ (l k : Nat) (W : World), w.heap.size ≤ l → I k W → k < N →
      assign.wpIn (F.inRound l) (n - 1 - 1) P (Exit.then (fun a1 W1 => KeepsFrom w.heap.size W W1 ∧ Kp W W1 ∧ ∀ W2, Same0 W1 W2 → TurnI w.heap.size T W1 W2 → body.wpIn (F.inRound l) (n - 1 - 1) P (fun e _ W3 => e = .normal ∧ KeepsFrom w.heap.size W2 W3 ∧ Kp W2 W3 ∧ I (k + 1) W3) a1 W2) (fun _ _ _ => False))
        { tmps := (ps.zip (encs k)).foldl (fun t (p, v) => t.setIfInBounds p v) a.tmps, defers := [] } W)
    (hdone : ∀ (D : Nat) (W : World), w.heap.size ≤ D → I N W → W.heap[D]? = some (.deferred (some [])) → Q .normal { a with defers := { target := .collected D, args := #[] } :: a.defers } W) :
    (Code.rangeFunc g ps assign body).wpIn F n P Q a w := by
  refine wpIn_rangeFunc fun fn hfn => ?_
  rw [hro]
  let rec' : LoopState → Option Code → Loop := fun st pe => { state := st, pending := pe, fn, tmps := a.tmps, params := ps, assign, body, defers := w.heap.size }
  let D := w.heap.size
  let l := w.heap.size + 1
  let X1 : World := (w.alloc (.deferred (some []))).alloc (.loop (rec' .ready none))
  have hz1 : (w.alloc (.deferred (some []))).heap.size = w.heap.size + 1 := World.size_alloc _ _
  have hL1 : ((w.alloc (.deferred (some []))).alloc (.loop (rec' .ready none))).heap[l]? = some (.loop (rec' .ready none)) := by
    have := World.alloc_heap_new (w.alloc (.deferred (some []))) (.loop (rec' .ready none))
    rwa [hz1] at this
  have hD1 : ((w.alloc (.deferred (some []))).alloc (.loop (rec' .ready none))).heap[D]? = some (.deferred (some [])) := (Below.heap_alloc _ _ _ (by rw [hz1]; exact Nat.lt_succ_self _)).trans (World.alloc_heap_new w _)
  have hB1 : Below w.heap.size w ((w.alloc (.deferred (some []))).alloc (.loop (rec' .ready none))) := (((Below.refl _ w).alloc (Nat.le_refl _) _).alloc (by simp) _)
  have hI1 : I 0 ((w.alloc (.deferred (some []))).alloc (.loop (rec' .ready none))) := hI 0 _ _ h0 (TurnJ.below (Nat.le_refl _) hB1).i
  refine ⟨l, [{ target := .collected D, args := #[] }], X1, { target := .fn (.func gf) lb, args := #[.func (.yield l) #[] #[]] }, X1, gf, #[.func (.yield l) #[] #[]] ++ lb, X1, run_enterLoop_outer _ _ _ _ _, ?_, ?_, ?_, fun _ => h1, ?_⟩
  · simp only [resolve, hg]
    simp [go_sem]
  · intro f' hf'
    simp [Target.leads] at hf'
    subst hf'
    exact hFg
  · simp [invoke, go_sem, eg]
  refine (hiter l (fun k W => I k W ∧ W.heap[l]? = some (.loop (rec' .ready none)) ∧ W.heap[D]? = some (.deferred (some []))) _ hB1
    (fun k X Y h t => ⟨hI k X Y h.1 t.i, t.others _ _ rfl h.2.1, t.others _ _ rfl h.2.2⟩) ?_ ⟨hI1, hL1, hD1⟩).mono ?_
  · rintro k W ⟨hi, hl, hd⟩ hk
    refine ⟨fn, _, assign, body, run_yield (P := P) (args := encs k) hl (hps k), roundIn_of_wpIn hfn (wpIn_mono (hround l k W (Nat.le_succ _) hi hk) ?_)⟩
    rintro e a1 W1 hp
    cases e with
    | normal =>
      obtain ⟨k1, p1, hbody⟩ := hp
      have hl1 := k1.same _ _ (Nat.le_succ _) hl rfl
      have hd1 := k1.same _ _ (Nat.le_refl _) hd rfl
      have s12 := Same0.putObj hl1 rfl (.loop { rec' .ready none with state := .busy })
      have hl2 : (W1.putObj l (.loop { rec' .ready none with state := .busy })).heap[l]? = some (.loop { rec' .ready none with state := .busy }) := World.putObj_heap_same (Array.getElem?_eq_some_iff.1 hl1).1
      have hd2 : (W1.putObj l (.loop { rec' .ready none with state := .busy })).heap[D]? = some (.deferred (some [])) := (World.putObj_heap_other (Nat.ne_of_lt (Nat.lt_succ_self _))).trans hd1
      refine ⟨_, run_beginRound hl1 rfl, wpIn_mono (hbody _ s12 (TurnI.putObj hl1 rfl (Nat.le_succ _) _)) ?_⟩
      rintro e3 a3 W3 ⟨rfl, k3, p3, i3⟩
      have hl3 := k3.same _ _ (Nat.le_succ _) hl2 rfl
      have hd3 := k3.same _ _ (Nat.le_refl _) hd2 rfl
      exact ⟨_, _, run_endRound (P := P) none hl3, rfl, ⟨hI _ _ _ i3 (TurnI.putObj hl3 rfl (Nat.le_succ _) _), World.putObj_heap_same (Array.getElem?_eq_some_iff.1 hl3).1, (World.putObj_heap_other (Nat.ne_of_lt (Nat.lt_succ_self _))).trans hd3⟩,
        hKt p1 (hKt (hK0 _ _ s12) (hKt p3 (hK0 _ _ (Same0.putObj hl3 rfl _))))⟩
    | ret => exact hp.elim
    | exit id => exact hp.elim
    | goto t => exact hp.elim
    | panic ch => exact hp.elim
    | outgrown => exact hp.elim
  · rintro e W2 ⟨⟨v, rfl⟩, hi, hl, hd⟩
    exact ⟨none, _, run_endLoop (P := P) hl (by simp [rec']), hdone D _ (Nat.le_refl _) (hI _ _ _ hi (TurnI.putObj hl rfl (Nat.le_succ _) _)) ((World.putObj_heap_other (Nat.ne_of_lt (Nat.lt_succ_self _))).trans hd)⟩

/-! lexer.steps -/
/-- the place behind k bytes -/
def plc (s : Bs) (k : Nat) : Int × Int × Int := (s.take k).foldl behP (0, 1, 1)
theorem plc_succ {s : Bs} {k : Nat} (h : k < s.length) : plc s (k + 1) = behP (plc s k) s[k] := by
  unfold plc
  rw [List.take_succ_eq_append_getElem h, List.foldl_append]
  rfl
theorem plc_bd : ∀ {s : Bs} {k : Nat}, k ≤ s.length → (plc s k).1 = k ∧ 1 ≤ (plc s k).2.1 ∧ (plc s k).2.1 ≤ k + 1 ∧ 1 ≤ (plc s k).2.2 ∧ (plc s k).2.2 ≤ k + 1
  | s, 0, _ => ⟨rfl, (by decide : (1 : Int) ≤ 1), (by decide : (1 : Int) ≤ ((0 : Nat) : Int) + 1), (by decide : (1 : Int) ≤ 1), (by decide : (1 : Int) ≤ ((0 : Nat) : Int) + 1)⟩
  | s, k + 1, h => by
    obtain ⟨h1, h2, h3, h4, h5⟩ := plc_bd (s := s) (k := k) (by omega)
    rw [plc_succ (by omega)]
    unfold behP
    split
    · refine ⟨?_, ?_, ?_, ?_, ?_⟩ <;> simp only <;> omega
    · refine ⟨?_, ?_, ?_, ?_, ?_⟩ <;> simp only <;> omega
theorem own_block {w : World} {b : Nat} {C : Array Value} {T : TypeId} (h : w.heap[b]? = some (.cells C T (0, 0))) : OwnRow w b C.toList := fun j v hj => by
  rw [Array.getElem?_toList] at hj
  exact ⟨by simp [World.cell?, h, hj], by simp [World.frozen?, h]⟩
theorem block_later6 {w w' : World} {b : Nat} {o : Obj} (h : w.heap[b]? = some o) (hb : Below w.heap.size w w') : w'.heap[b]? = some o := by rw [hb.block b (Array.getElem?_eq_some_iff.1 h).1]; exact h
theorem heap_set3 {W : World} {b : Nat} {x y z x' y' z' : Value} {T : TypeId} (h : W.heap[b]? = some (.cells #[x, y, z] T (0, 0))) : (((W.setCell ⟨b, 0, none⟩ x').setCell ⟨b, 1, none⟩ y').setCell ⟨b, 2, none⟩ z').heap[b]? = some (.cells #[x', y', z'] T (0, 0)) := by
  simp [World.setCell, Array.getElem?_modify, h]
theorem heap_far3 {W : World} {b b' : Nat} {x' y' z' : Value} {o : Obj} (hne : b ≠ b') (h : W.heap[b]? = some o) : (((W.setCell ⟨b', 0, none⟩ x').setCell ⟨b', 1, none⟩ y').setCell ⟨b', 2, none⟩ z').heap[b]? = some o := by
  rw [Below.heap_setCell _ _ _ _ hne, Below.heap_setCell _ _ _ _ hne, Below.heap_setCell _ _ _ _ hne]
  exact h
theorem turn_set3 {B : Nat} {W : World} {b : Nat} {x y z x' y' z' : Value} {T : TypeId} (h : W.heap[b]? = some (.cells #[x, y, z] T (0, 0))) (hB : B ≤ b) : TurnJ B T W (((W.setCell ⟨b, 0, none⟩ x').setCell ⟨b, 1, none⟩ y').setCell ⟨b, 2, none⟩ z') := by
  have h1 : (W.setCell ⟨b, 0, none⟩ x').heap[b]? = some (.cells #[x', y, z] T (0, 0)) := by simp [World.setCell, Array.getElem?_modify, h]
  have h2 : ((W.setCell ⟨b, 0, none⟩ x').setCell ⟨b, 1, none⟩ y').heap[b]? = some (.cells #[x', y', z] T (0, 0)) := by simp [World.setCell, Array.getElem?_modify, h]
  exact ((TurnJ.setCell h hB 0 x').trans (TurnJ.setCell h1 hB 1 y')).trans (TurnJ.setCell h2 hB 2 z')
def stepE (s : Bs) (k : Nat) : Array Value := #[.agg #[.int .i64 (plc s k).1, .int .i64 (plc s k).2.1, .int .i64 (plc s k).2.2, .int .u8 ((s.getD k 0).toNat : Int)]]
/-- the boxes of places and of texts stay -/
def KpS (W V : World) : Prop := ∀ (b : Nat) (C : Array Value) (T : TypeId) (fr : Nat × Nat), T = 91 ∨ T = 9 → W.heap[b]? = some (.cells C T fr) → V.heap[b]? = some (.cells C T fr)
theorem KpS.trans {A B C : World} (h : KpS A B) (k : KpS B C) : KpS A C := fun b D T fr hT hb => k b D T fr hT (h b D T fr hT hb)
theorem KpS.same0 {W V : World} (h : Same0 W V) : KpS W V := fun b C T fr _ hb => h.cells b C T fr hb
theorem KpS.below {W V : World} (h : Below W.heap.size W V) : KpS W V := fun b C T fr _ hb => by rw [h.block b (Array.getElem?_eq_some_iff.1 hb).1]; exact hb


set_option maxRecDepth 100000 in
set_option maxHeartbeats 2000000 in
theorem steps1_in (n : Nat) (hn : 2 ≤ n) (lp Bs0 B : Nat) (s : Bs) (hlen : s.length ≤ 100000) (J : Nat → World → Prop) (W : World) (hB : B ≤ W.heap.size)
    (hJ : ∀ k X Y, J k X → TurnJ B 91 X Y → J k Y)
    (hY : ∀ k W1, J k W1 → k < s.length → YieldAt Fence.wide (n - 1) Tryz.prog lp (stepE s k) W1 fun e W' => e = .returned (.bool true) ∧ J (k + 1) W' ∧ KpS W1 W')
    (fr : Nat × Nat) (hc : W.heap[Bs0]? = some (.cells #[.string (bsB s)] 9 fr)) (h0 : J 0 W) :
    CallsIn Fence.wide n Tryz.prog 51 #[.func (.yield lp) #[] #[], .pointer (some ⟨Bs0, 0, none⟩)] W fun e W' => (∃ v, e = .returned v) ∧ J s.length W' := by
  have hro : Fence.wide.round = none := rfl
  refine callsIn_of_wp Tryz.func51 rfl trivial ?_ hro
  simp only [Tryz.ntmps51, List.size_toArray, List.length_cons, List.length_nil, Nat.reduceAdd, Nat.reduceSub, Array.replicate_succ, Array.replicate_zero, List.push_toArray, List.append_toArray, List.nil_append, List.cons_append]
  have hal : Below W.heap.size W (W.alloc (.cells #[.int .i64 0, .int .i64 1, .int .i64 1] 91)) := (Below.refl _ _).alloc (Nat.le_refl _) _
  have HP1 := Lib.hid (heap_alloc_new W (.cells #[.int .i64 0, .int .i64 1, .int .i64 1] 91))
  have HJ1 := Lib.hid (hJ 0 _ _ h0 (TurnJ.below hB hal))
  have HC1 := Lib.hid (show (W.alloc (.cells #[.int .i64 0, .int .i64 1, .int .i64 1] 91)).heap[Bs0]? = some (.cells #[.string (bsB s)] 9 fr) by rw [hal.block _ (Array.getElem?_eq_some_iff.1 hc).1]; exact hc)
  have HCL := Lib.hid (fun (X : World) (h : X.heap[Bs0]? = some (.cells #[.string (bsB s)] 9 fr)) => (show X.cell? ⟨Bs0, 0, none⟩ = some (.string (bsB s)) by simp [World.cell?, h]))
  have x0 := HCL.out _ HC1.out
  have hBs : Bs0 ≠ W.heap.size := Nat.ne_of_lt (Array.getElem?_eq_some_iff.1 hc).1
  have HSZ := Lib.hid (show (bsB s).size = s.length from bsB_size s)
  have HJ := Lib.hid hJ
  have HY := Lib.hid hY
  clear hal hc h0 hJ hY
  generalize hw1 : W.alloc (.cells #[.int .i64 0, .int .i64 1, .int .i64 1] 91) = w1 at *
  gi_wp2
  clear hw1 x0
  gi_loopw [8] (fun i wr => ∃ k : Nat, k ≤ s.length ∧ i = .int .i64 k ∧ J k wr ∧ wr.heap[W.heap.size]? = some (.cells #[.int .i64 (plc s k).1, .int .i64 (plc s k).2.1, .int .i64 (plc s k).2.2] 91 (0, 0)) ∧ wr.heap[Bs0]? = some (.cells #[.string (bsB s)] 9 fr))
    (fun i _ => s.length - (intOf i).toNat)
  case atStart => exact ⟨0, Nat.zero_le _, rfl, HJ1.out, HP1.out, HC1.out⟩
  case round =>
    obtain ⟨k, hk, rfl, hjk, hp, hc⟩ := hrel
    have x0 := HCL.out _ hc
    have HP := Lib.hid hp
    have HC := Lib.hid hc
    have HJK := Lib.hid hjk
    have hsz := HSZ.out
    clear hp hc
    by_cases hlt : k < s.length
    · obtain ⟨fn, tmps, assign, body, hy, hR⟩ := HY.out k wr.drew (HJ.out _ _ _ hjk (TurnJ.drew B _ wr 1)) hlt
      have HR := Lib.hid hR
      clear hR
      obtain ⟨b1, b2, b3, b4, b5⟩ := plc_bd (s := s) (k := k) hk
      have HS1 := Lib.hid (plc_succ hlt)
      have hgd : s.getD k 0 = s[k] := by simp [List.getD, hlt]
      unfold stepE at hy
      rw [hgd] at hy
      obtain ⟨c, hcv⟩ : ∃ c, s[k] = c := ⟨_, rfl⟩
      have hcix : ∀ h : k < (bsB s).size, (bsB s)[k]'h = c := fun h => hcv
      rw [hcv] at hy HS1
      generalize plc s k = p at hy HP HS1 b1 b2 b3 b4 b5
      clear hcv hgd
      obtain ⟨po, pl, pc⟩ := p
      dsimp only at hy HP b1 b2 b3 b4 b5
      subst b1
      have q0 := (own_block HP.out).cell (j := 0) rfl
      have q1 := (own_block HP.out).cell (j := 1) rfl
      have q2 := (own_block HP.out).cell (j := 2) rfl
      have hlt2 : k < (bsB s).size := by omega
      clear hjk
      gi_wp2
      have hmx : Tryz.prog.follows .mixedOrders = true := by kernel_rfl
      have h1n : 1 ≤ n := by omega
      clear hsz
      refine wpIn_region_any hmx ?_
      refine wpAnyIn_take (i := 0) (v := ?_) hro rfl (by kernel_rfl) (by kernel_rfl) (by kernel_rfl) (fun _ _ _ h => h) ⟨Or.inl ⟨by rfl, ?_⟩, ?_⟩ ?_
      rotate_left
      · intro w
        go_simp
        all_goals with_reducible rfl
      · intro w
        rfl
      simp only [Act.put, List.getElem_toArray, List.getElem_cons_succ, List.getElem_cons_zero, List.setIfInBounds_toArray, List.set_cons_zero, List.set_cons_succ]
      refine wpAnyIn_take (i := 3) (v := ?_) hro rfl (by kernel_rfl) (by kernel_rfl) (by kernel_rfl) (fun _ _ _ h => h) ⟨Or.inl ⟨by rfl, ?_⟩, ?_⟩ ?_
      rotate_left
      · intro w
        go_simp
        all_goals with_reducible rfl
      · intro w
        rfl
      simp only [Act.put, List.getElem_toArray, List.getElem_cons_succ, List.getElem_cons_zero, List.setIfInBounds_toArray, List.set_cons_zero, List.set_cons_succ]
      refine wpAnyIn_ready (rs := [1, 2]) (by kernel_rfl) (by simp) ?_
      refine AllReadyIn.cons (o := _) rfl (fun K hK => ?_) (AllReadyIn.cons (o := _) rfl (fun K hK => ?_) AllReadyIn.nil) <;> (have HKK := Lib.hid hK; clear hK)
      · go_simp
        refine HKK.out _ _ ?_
        clear HKK
        try simp only [Act.put, List.getElem_toArray, List.getElem_cons_succ, List.getElem_cons_zero, List.setIfInBounds_toArray, List.set_cons_zero, List.set_cons_succ]
        refine wpAnyIn_ready (rs := [2]) (by kernel_rfl) (by simp) ?_
        refine AllReadyIn.cons (o := _) rfl (fun K hK => ?_) AllReadyIn.nil
        have HKK := Lib.hid hK
        clear hK
        go_simp
        refine HKK.out _ _ ?_
        clear HKK
        try simp only [Act.put, List.getElem_toArray, List.getElem_cons_succ, List.getElem_cons_zero, List.setIfInBounds_toArray, List.set_cons_zero, List.set_cons_succ]
        refine wpAnyIn_take (i := 4) (v := ?_) hro rfl (by kernel_rfl) (by kernel_rfl) (by kernel_rfl) (fun _ _ _ h => h) ⟨Or.inl ⟨by rfl, ?_⟩, ?_⟩ ?_
        rotate_left
        · intro w
          go_simp
          all_goals with_reducible rfl
        · intro w
          rfl
        simp only [Act.put, List.getElem_toArray, List.getElem_cons_succ, List.getElem_cons_zero, List.setIfInBounds_toArray, List.set_cons_zero, List.set_cons_succ]
        refine wpAnyIn_take (i := 5) (v := ?_) hro rfl (by kernel_rfl) (by kernel_rfl) (by kernel_rfl) (fun _ _ _ h => h) ⟨Or.inl ⟨by rfl, ?_⟩, ?_⟩ ?_
        rotate_left
        · intro w
          go_simp
          all_goals with_reducible rfl
        · intro w
          rfl
        simp only [Act.put, List.getElem_toArray, List.getElem_cons_succ, List.getElem_cons_zero, List.setIfInBounds_toArray, List.set_cons_zero, List.set_cons_succ]
        refine wpAnyIn_ready (rs := [6]) (by kernel_rfl) (by simp) ?_
        refine AllReadyIn.cons (o := _) rfl (fun K hK => ?_) AllReadyIn.nil
        have HKK := Lib.hid hK
        clear hK
        go_simp
        refine HR.out.mono ?_
        rintro e W3 ⟨rfl, hj3, hk3⟩
        have HJ3 := Lib.hid hj3
        have HK3 := Lib.hid hk3
        clear hj3 hk3
        refine HKK.out _ _ ?_
        clear HKK
        try simp only [Act.put, List.getElem_toArray, List.getElem_cons_succ, List.getElem_cons_zero, List.setIfInBounds_toArray, List.set_cons_zero, List.set_cons_succ]
        refine wpAnyIn_take (i := 7) (v := ?_) hro rfl (by kernel_rfl) (by kernel_rfl) (by kernel_rfl) (fun _ _ _ h => h) ⟨Or.inl ⟨by rfl, ?_⟩, ?_⟩ ?_
        rotate_left
        · intro w
          go_simp
          all_goals with_reducible rfl
        · intro w
          rfl
        simp only [Act.put, List.getElem_toArray, List.getElem_cons_succ, List.getElem_cons_zero, List.setIfInBounds_toArray, List.set_cons_zero, List.set_cons_succ]
        refine wpAnyIn_done (by kernel_rfl) ?_ _
        have HP3 := Lib.hid (HK3.out _ _ _ _ (.inl rfl) HP.out)
        have HC3 := Lib.hid (HK3.out _ _ _ _ (.inr rfl) HC.out)
        have z0 := HCL.out _ HC3.out
        have z1 := (own_block HP3.out).cell (j := 0) rfl
        have z2 := (own_block HP3.out).cell (j := 1) rfl
        have z3 := (own_block HP3.out).cell (j := 2) rfl
        clear q0 q1 q2 x0
        gi_wp2
        refine wpIn_region_any hmx ?_
        have HBH := Lib.hid (lex_behind (k : Int) pl pc c W3.drew ⟨by omega, by omega⟩ ⟨by omega, by omega⟩ ⟨by omega, by omega⟩)
        refine wpAnyIn_take (i := 2) (v := ?_) hro rfl (by kernel_rfl) (by kernel_rfl) (by kernel_rfl) (fun _ _ _ h => h) ⟨Or.inl ⟨by rfl, ?_⟩, ?_⟩ ?_
        rotate_left
        · intro w
          go_simp
          all_goals with_reducible rfl
        · intro w
          rfl
        simp only [Act.put, List.getElem_toArray, List.getElem_cons_succ, List.getElem_cons_zero, List.setIfInBounds_toArray, List.set_cons_zero, List.set_cons_succ]
        refine wpAnyIn_ready (rs := [0, 1]) (by kernel_rfl) (by simp) ?_
        refine AllReadyIn.cons (o := _) rfl (fun K hK => ?_) (AllReadyIn.cons (o := _) rfl (fun K hK => ?_) AllReadyIn.nil) <;> (have HKK := Lib.hid hK; clear hK)
        · go_simp
          refine HKK.out _ _ ?_
          clear HKK
          try simp only [Act.put, List.getElem_toArray, List.getElem_cons_succ, List.getElem_cons_zero, List.setIfInBounds_toArray, List.set_cons_zero, List.set_cons_succ]
          refine wpAnyIn_ready (rs := [1]) (by kernel_rfl) (by simp) ?_
          refine AllReadyIn.cons (o := _) rfl (fun K hK => ?_) AllReadyIn.nil
          have HKK := Lib.hid hK
          clear hK
          go_simp
          refine HKK.out _ _ ?_
          clear HKK
          try simp only [Act.put, List.getElem_toArray, List.getElem_cons_succ, List.getElem_cons_zero, List.setIfInBounds_toArray, List.set_cons_zero, List.set_cons_succ]
          refine wpAnyIn_take (i := 3) (v := ?_) hro rfl (by kernel_rfl) (by kernel_rfl) (by kernel_rfl) (fun _ _ _ h => h) ⟨Or.inl ⟨by rfl, ?_⟩, ?_⟩ ?_
          rotate_left
          · intro w
            go_simp
            all_goals with_reducible rfl
          · intro w
            rfl
          simp only [Act.put, List.getElem_toArray, List.getElem_cons_succ, List.getElem_cons_zero, List.setIfInBounds_toArray, List.set_cons_zero, List.set_cons_succ]
          refine wpAnyIn_ready (rs := [4]) (by kernel_rfl) (by simp) ?_
          refine AllReadyIn.cons (o := _) rfl (fun K hK => ?_) AllReadyIn.nil
          have HKK := Lib.hid hK
          clear hK
          go_simp
          refine ⟨trivial, (callsIn_wide.2 HBH.out).mono ?_⟩
          rintro e W5 ⟨rfl, hb5'⟩
          have hb5 := below_undr hb5'
          have HP5 := Lib.hid (block_later6 HP3.out hb5)
          have HC5 := Lib.hid (block_later6 HC3.out hb5)
          have HT5 := Lib.hid (TurnJ.below (T := 91) (Nat.le_trans hB (Nat.le_of_lt (cell_lt z1))) hb5)
          generalize hbp : behP (↑k, pl, pc) c = bp at *
          obtain ⟨bo, bl, bc⟩ := bp
          have y1 := (own_block HP5.out).cell (j := 0) rfl
          have y2 := (own_block HP5.out).cell (j := 1) rfl
          have y3 := (own_block HP5.out).cell (j := 2) rfl
          have f1 := (own_block HP5.out).free (j := 0) (by simp)
          have f2 := (own_block HP5.out).free (j := 1) (by simp)
          have f3 := (own_block HP5.out).free (j := 2) (by simp)

          clear hb5 hb5' hbp
          refine HKK.out _ _ ?_
          clear HKK
          try simp only [Act.put, List.getElem_toArray, List.getElem_cons_succ, List.getElem_cons_zero, List.setIfInBounds_toArray, List.set_cons_zero, List.set_cons_succ]
          refine wpAnyIn_ready (rs := [5]) (by kernel_rfl) (by simp) ?_
          refine AllReadyIn.cons (o := _) rfl (fun K hK => ?_) AllReadyIn.nil
          have HKK := Lib.hid hK
          clear hK
          go_simp
          have HP6 := Lib.hid (heap_set3 (x' := .int .i64 bo) (y' := .int .i64 bl) (z' := .int .i64 bc) HP5.out)
          have HC6 := Lib.hid (heap_far3 (x' := .int .i64 bo) (y' := .int .i64 bl) (z' := .int .i64 bc) hBs HC5.out)
          have HJ6 := Lib.hid (HJ.out _ _ _ HJ3.out (HT5.out.trans (turn_set3 (x' := .int .i64 bo) (y' := .int .i64 bl) (z' := .int .i64 bc) HP5.out hB)))
          have HPL := HS1
          clear y1 y2 y3 f1 f2 f3 z0 z1 z2 z3
          refine HKK.out _ _ ?_
          clear HKK
          try simp only [Act.put, List.getElem_toArray, List.getElem_cons_succ, List.getElem_cons_zero, List.setIfInBounds_toArray, List.set_cons_zero, List.set_cons_succ]
          refine wpAnyIn_done (by kernel_rfl) ?_ _
          gi_wp2
          go_roundw
          case rel => exact ⟨k + 1, hlt, by go_num, HJ6.out, by rw [HPL.out]; exact HP6.out, HC6.out⟩
          case measure => simp [intOf]; omega
        · go_simp
          refine HKK.out _ _ ?_
          clear HKK
          try simp only [Act.put, List.getElem_toArray, List.getElem_cons_succ, List.getElem_cons_zero, List.setIfInBounds_toArray, List.set_cons_zero, List.set_cons_succ]
          refine wpAnyIn_take (i := 3) (v := ?_) hro rfl (by kernel_rfl) (by kernel_rfl) (by kernel_rfl) (fun _ _ _ h => h) ⟨Or.inl ⟨by rfl, ?_⟩, ?_⟩ ?_
          rotate_left
          · intro w
            go_simp
            all_goals with_reducible rfl
          · intro w
            rfl
          simp only [Act.put, List.getElem_toArray, List.getElem_cons_succ, List.getElem_cons_zero, List.setIfInBounds_toArray, List.set_cons_zero, List.set_cons_succ]
          refine wpAnyIn_ready (rs := [0]) (by kernel_rfl) (by simp) ?_
          refine AllReadyIn.cons (o := _) rfl (fun K hK => ?_) AllReadyIn.nil
          have HKK := Lib.hid hK
          clear hK
          go_simp
          refine HKK.out _ _ ?_
          clear HKK
          try simp only [Act.put, List.getElem_toArray, List.getElem_cons_succ, List.getElem_cons_zero, List.setIfInBounds_toArray, List.set_cons_zero, List.set_cons_succ]
          refine wpAnyIn_ready (rs := [4]) (by kernel_rfl) (by simp) ?_
          refine AllReadyIn.cons (o := _) rfl (fun K hK => ?_) AllReadyIn.nil
          have HKK := Lib.hid hK
          clear hK
          go_simp
          refine ⟨trivial, (callsIn_wide.2 HBH.out).mono ?_⟩
          rintro e W5 ⟨rfl, hb5'⟩
          have hb5 := below_undr hb5'
          have HP5 := Lib.hid (block_later6 HP3.out hb5)
          have HC5 := Lib.hid (block_later6 HC3.out hb5)
          have HT5 := Lib.hid (TurnJ.below (T := 91) (Nat.le_trans hB (Nat.le_of_lt (cell_lt z1))) hb5)
          generalize hbp : behP (↑k, pl, pc) c = bp at *
          obtain ⟨bo, bl, bc⟩ := bp
          have y1 := (own_block HP5.out).cell (j := 0) rfl
          have y2 := (own_block HP5.out).cell (j := 1) rfl
          have y3 := (own_block HP5.out).cell (j := 2) rfl
          have f1 := (own_block HP5.out).free (j := 0) (by simp)
          have f2 := (own_block HP5.out).free (j := 1) (by simp)
          have f3 := (own_block HP5.out).free (j := 2) (by simp)

          clear hb5 hb5' hbp
          refine HKK.out _ _ ?_
          clear HKK
          try simp only [Act.put, List.getElem_toArray, List.getElem_cons_succ, List.getElem_cons_zero, List.setIfInBounds_toArray, List.set_cons_zero, List.set_cons_succ]
          refine wpAnyIn_ready (rs := [5]) (by kernel_rfl) (by simp) ?_
          refine AllReadyIn.cons (o := _) rfl (fun K hK => ?_) AllReadyIn.nil
          have HKK := Lib.hid hK
          clear hK
          go_simp
          have HP6 := Lib.hid (heap_set3 (x' := .int .i64 bo) (y' := .int .i64 bl) (z' := .int .i64 bc) HP5.out)
          have HC6 := Lib.hid (heap_far3 (x' := .int .i64 bo) (y' := .int .i64 bl) (z' := .int .i64 bc) hBs HC5.out)
          have HJ6 := Lib.hid (HJ.out _ _ _ HJ3.out (HT5.out.trans (turn_set3 (x' := .int .i64 bo) (y' := .int .i64 bl) (z' := .int .i64 bc) HP5.out hB)))
          have HPL := HS1
          clear y1 y2 y3 f1 f2 f3 z0 z1 z2 z3
          refine HKK.out _ _ ?_
          clear HKK
          try simp only [Act.put, List.getElem_toArray, List.getElem_cons_succ, List.getElem_cons_zero, List.setIfInBounds_toArray, List.set_cons_zero, List.set_cons_succ]
          refine wpAnyIn_done (by kernel_rfl) ?_ _
          gi_wp2
          go_roundw
          case rel => exact ⟨k + 1, hlt, by go_num, HJ6.out, by rw [HPL.out]; exact HP6.out, HC6.out⟩
          case measure => simp [intOf]; omega
      · go_simp
        refine HKK.out _ _ ?_
        clear HKK
        try simp only [Act.put, List.getElem_toArray, List.getElem_cons_succ, List.getElem_cons_zero, List.setIfInBounds_toArray, List.set_cons_zero, List.set_cons_succ]
        refine wpAnyIn_take (i := 4) (v := ?_) hro rfl (by kernel_rfl) (by kernel_rfl) (by kernel_rfl) (fun _ _ _ h => h) ⟨Or.inl ⟨by rfl, ?_⟩, ?_⟩ ?_
        rotate_left
        · intro w
          go_simp
          all_goals with_reducible rfl
        · intro w
          rfl
        simp only [Act.put, List.getElem_toArray, List.getElem_cons_succ, List.getElem_cons_zero, List.setIfInBounds_toArray, List.set_cons_zero, List.set_cons_succ]
        refine wpAnyIn_ready (rs := [1]) (by kernel_rfl) (by simp) ?_
        refine AllReadyIn.cons (o := _) rfl (fun K hK => ?_) AllReadyIn.nil
        have HKK := Lib.hid hK
        clear hK
        go_simp
        refine HKK.out _ _ ?_
        clear HKK
        try simp only [Act.put, List.getElem_toArray, List.getElem_cons_succ, List.getElem_cons_zero, List.setIfInBounds_toArray, List.set_cons_zero, List.set_cons_succ]
        refine wpAnyIn_take (i := 5) (v := ?_) hro rfl (by kernel_rfl) (by kernel_rfl) (by kernel_rfl) (fun _ _ _ h => h) ⟨Or.inl ⟨by rfl, ?_⟩, ?_⟩ ?_
        rotate_left
        · intro w
          go_simp
          all_goals with_reducible rfl
        · intro w
          rfl
        simp only [Act.put, List.getElem_toArray, List.getElem_cons_succ, List.getElem_cons_zero, List.setIfInBounds_toArray, List.set_cons_zero, List.set_cons_succ]
        refine wpAnyIn_ready (rs := [6]) (by kernel_rfl) (by simp) ?_
        refine AllReadyIn.cons (o := _) rfl (fun K hK => ?_) AllReadyIn.nil
        have HKK := Lib.hid hK
        clear hK
        go_simp
        refine HR.out.mono ?_
        rintro e W3 ⟨rfl, hj3, hk3⟩
        have HJ3 := Lib.hid hj3
        have HK3 := Lib.hid hk3
        clear hj3 hk3
        refine HKK.out _ _ ?_
        clear HKK
        try simp only [Act.put, List.getElem_toArray, List.getElem_cons_succ, List.getElem_cons_zero, List.setIfInBounds_toArray, List.set_cons_zero, List.set_cons_succ]
        refine wpAnyIn_take (i := 7) (v := ?_) hro rfl (by kernel_rfl) (by kernel_rfl) (by kernel_rfl) (fun _ _ _ h => h) ⟨Or.inl ⟨by rfl, ?_⟩, ?_⟩ ?_
        rotate_left
        · intro w
          go_simp
          all_goals with_reducible rfl
        · intro w
          rfl
        simp only [Act.put, List.getElem_toArray, List.getElem_cons_succ, List.getElem_cons_zero, List.setIfInBounds_toArray, List.set_cons_zero, List.set_cons_succ]
        refine wpAnyIn_done (by kernel_rfl) ?_ _
        have HP3 := Lib.hid (HK3.out _ _ _ _ (.inl rfl) HP.out)
        have HC3 := Lib.hid (HK3.out _ _ _ _ (.inr rfl) HC.out)
        have z0 := HCL.out _ HC3.out
        have z1 := (own_block HP3.out).cell (j := 0) rfl
        have z2 := (own_block HP3.out).cell (j := 1) rfl
        have z3 := (own_block HP3.out).cell (j := 2) rfl
        clear q0 q1 q2 x0
        gi_wp2
        refine wpIn_region_any hmx ?_
        have HBH := Lib.hid (lex_behind (k : Int) pl pc c W3.drew ⟨by omega, by omega⟩ ⟨by omega, by omega⟩ ⟨by omega, by omega⟩)
        refine wpAnyIn_take (i := 2) (v := ?_) hro rfl (by kernel_rfl) (by kernel_rfl) (by kernel_rfl) (fun _ _ _ h => h) ⟨Or.inl ⟨by rfl, ?_⟩, ?_⟩ ?_
        rotate_left
        · intro w
          go_simp
          all_goals with_reducible rfl
        · intro w
          rfl
        simp only [Act.put, List.getElem_toArray, List.getElem_cons_succ, List.getElem_cons_zero, List.setIfInBounds_toArray, List.set_cons_zero, List.set_cons_succ]
        refine wpAnyIn_ready (rs := [0, 1]) (by kernel_rfl) (by simp) ?_
        refine AllReadyIn.cons (o := _) rfl (fun K hK => ?_) (AllReadyIn.cons (o := _) rfl (fun K hK => ?_) AllReadyIn.nil) <;> (have HKK := Lib.hid hK; clear hK)
        · go_simp
          refine HKK.out _ _ ?_
          clear HKK
          try simp only [Act.put, List.getElem_toArray, List.getElem_cons_succ, List.getElem_cons_zero, List.setIfInBounds_toArray, List.set_cons_zero, List.set_cons_succ]
          refine wpAnyIn_ready (rs := [1]) (by kernel_rfl) (by simp) ?_
          refine AllReadyIn.cons (o := _) rfl (fun K hK => ?_) AllReadyIn.nil
          have HKK := Lib.hid hK
          clear hK
          go_simp
          refine HKK.out _ _ ?_
          clear HKK
          try simp only [Act.put, List.getElem_toArray, List.getElem_cons_succ, List.getElem_cons_zero, List.setIfInBounds_toArray, List.set_cons_zero, List.set_cons_succ]
          refine wpAnyIn_take (i := 3) (v := ?_) hro rfl (by kernel_rfl) (by kernel_rfl) (by kernel_rfl) (fun _ _ _ h => h) ⟨Or.inl ⟨by rfl, ?_⟩, ?_⟩ ?_
          rotate_left
          · intro w
            go_simp
            all_goals with_reducible rfl
          · intro w
            rfl
          simp only [Act.put, List.getElem_toArray, List.getElem_cons_succ, List.getElem_cons_zero, List.setIfInBounds_toArray, List.set_cons_zero, List.set_cons_succ]
          refine wpAnyIn_ready (rs := [4]) (by kernel_rfl) (by simp) ?_
          refine AllReadyIn.cons (o := _) rfl (fun K hK => ?_) AllReadyIn.nil
          have HKK := Lib.hid hK
          clear hK
          go_simp
          refine ⟨trivial, (callsIn_wide.2 HBH.out).mono ?_⟩
          rintro e W5 ⟨rfl, hb5'⟩
          have hb5 := below_undr hb5'
          have HP5 := Lib.hid (block_later6 HP3.out hb5)
          have HC5 := Lib.hid (block_later6 HC3.out hb5)
          have HT5 := Lib.hid (TurnJ.below (T := 91) (Nat.le_trans hB (Nat.le_of_lt (cell_lt z1))) hb5)
          generalize hbp : behP (↑k, pl, pc) c = bp at *
          obtain ⟨bo, bl, bc⟩ := bp
          have y1 := (own_block HP5.out).cell (j := 0) rfl
          have y2 := (own_block HP5.out).cell (j := 1) rfl
          have y3 := (own_block HP5.out).cell (j := 2) rfl
          have f1 := (own_block HP5.out).free (j := 0) (by simp)
          have f2 := (own_block HP5.out).free (j := 1) (by simp)
          have f3 := (own_block HP5.out).free (j := 2) (by simp)

          clear hb5 hb5' hbp
          refine HKK.out _ _ ?_
          clear HKK
          try simp only [Act.put, List.getElem_toArray, List.getElem_cons_succ, List.getElem_cons_zero, List.setIfInBounds_toArray, List.set_cons_zero, List.set_cons_succ]
          refine wpAnyIn_ready (rs := [5]) (by kernel_rfl) (by simp) ?_
          refine AllReadyIn.cons (o := _) rfl (fun K hK => ?_) AllReadyIn.nil
          have HKK := Lib.hid hK
          clear hK
          go_simp
          have HP6 := Lib.hid (heap_set3 (x' := .int .i64 bo) (y' := .int .i64 bl) (z' := .int .i64 bc) HP5.out)
          have HC6 := Lib.hid (heap_far3 (x' := .int .i64 bo) (y' := .int .i64 bl) (z' := .int .i64 bc) hBs HC5.out)
          have HJ6 := Lib.hid (HJ.out _ _ _ HJ3.out (HT5.out.trans (turn_set3 (x' := .int .i64 bo) (y' := .int .i64 bl) (z' := .int .i64 bc) HP5.out hB)))
          have HPL := HS1
          clear y1 y2 y3 f1 f2 f3 z0 z1 z2 z3
          refine HKK.out _ _ ?_
          clear HKK
          try simp only [Act.put, List.getElem_toArray, List.getElem_cons_succ, List.getElem_cons_zero, List.setIfInBounds_toArray, List.set_cons_zero, List.set_cons_succ]
          refine wpAnyIn_done (by kernel_rfl) ?_ _
          gi_wp2
          go_roundw
          case rel => exact ⟨k + 1, hlt, by go_num, HJ6.out, by rw [HPL.out]; exact HP6.out, HC6.out⟩
          case measure => simp [intOf]; omega
        · go_simp
          refine HKK.out _ _ ?_
          clear HKK
          try simp only [Act.put, List.getElem_toArray, List.getElem_cons_succ, List.getElem_cons_zero, List.setIfInBounds_toArray, List.set_cons_zero, List.set_cons_succ]
          refine wpAnyIn_take (i := 3) (v := ?_) hro rfl (by kernel_rfl) (by kernel_rfl) (by kernel_rfl) (fun _ _ _ h => h) ⟨Or.inl ⟨by rfl, ?_⟩, ?_⟩ ?_
          rotate_left
          · intro w
            go_simp
            all_goals with_reducible rfl
          · intro w
            rfl
          simp only [Act.put, List.getElem_toArray, List.getElem_cons_succ, List.getElem_cons_zero, List.setIfInBounds_toArray, List.set_cons_zero, List.set_cons_succ]
          refine wpAnyIn_ready (rs := [0]) (by kernel_rfl) (by simp) ?_
          refine AllReadyIn.cons (o := _) rfl (fun K hK => ?_) AllReadyIn.nil
          have HKK := Lib.hid hK
          clear hK
          go_simp
          refine HKK.out _ _ ?_
          clear HKK
          try simp only [Act.put, List.getElem_toArray, List.getElem_cons_succ, List.getElem_cons_zero, List.setIfInBounds_toArray, List.set_cons_zero, List.set_cons_succ]
          refine wpAnyIn_ready (rs := [4]) (by kernel_rfl) (by simp) ?_
          refine AllReadyIn.cons (o := _) rfl (fun K hK => ?_) AllReadyIn.nil
          have HKK := Lib.hid hK
          clear hK
          go_simp
          refine ⟨trivial, (callsIn_wide.2 HBH.out).mono ?_⟩
          rintro e W5 ⟨rfl, hb5'⟩
          have hb5 := below_undr hb5'
          have HP5 := Lib.hid (block_later6 HP3.out hb5)
          have HC5 := Lib.hid (block_later6 HC3.out hb5)
          have HT5 := Lib.hid (TurnJ.below (T := 91) (Nat.le_trans hB (Nat.le_of_lt (cell_lt z1))) hb5)
          generalize hbp : behP (↑k, pl, pc) c = bp at *
          obtain ⟨bo, bl, bc⟩ := bp
          have y1 := (own_block HP5.out).cell (j := 0) rfl
          have y2 := (own_block HP5.out).cell (j := 1) rfl
          have y3 := (own_block HP5.out).cell (j := 2) rfl
          have f1 := (own_block HP5.out).free (j := 0) (by simp)
          have f2 := (own_block HP5.out).free (j := 1) (by simp)
          have f3 := (own_block HP5.out).free (j := 2) (by simp)

          clear hb5 hb5' hbp
          refine HKK.out _ _ ?_
          clear HKK
          try simp only [Act.put, List.getElem_toArray, List.getElem_cons_succ, List.getElem_cons_zero, List.setIfInBounds_toArray, List.set_cons_zero, List.set_cons_succ]
          refine wpAnyIn_ready (rs := [5]) (by kernel_rfl) (by simp) ?_
          refine AllReadyIn.cons (o := _) rfl (fun K hK => ?_) AllReadyIn.nil
          have HKK := Lib.hid hK
          clear hK
          go_simp
          have HP6 := Lib.hid (heap_set3 (x' := .int .i64 bo) (y' := .int .i64 bl) (z' := .int .i64 bc) HP5.out)
          have HC6 := Lib.hid (heap_far3 (x' := .int .i64 bo) (y' := .int .i64 bl) (z' := .int .i64 bc) hBs HC5.out)
          have HJ6 := Lib.hid (HJ.out _ _ _ HJ3.out (HT5.out.trans (turn_set3 (x' := .int .i64 bo) (y' := .int .i64 bl) (z' := .int .i64 bc) HP5.out hB)))
          have HPL := HS1
          clear y1 y2 y3 f1 f2 f3 z0 z1 z2 z3
          refine HKK.out _ _ ?_
          clear HKK
          try simp only [Act.put, List.getElem_toArray, List.getElem_cons_succ, List.getElem_cons_zero, List.setIfInBounds_toArray, List.set_cons_zero, List.set_cons_succ]
          refine wpAnyIn_done (by kernel_rfl) ?_ _
          gi_wp2
          go_roundw
          case rel => exact ⟨k + 1, hlt, by go_num, HJ6.out, by rw [HPL.out]; exact HP6.out, HC6.out⟩
          case measure => simp [intOf]; omega
    · obtain rfl : k = s.length := by omega
      have HJK2 := HJK
      clear hjk
      gi_wp2
      go_end0
      exact ⟨⟨_, rfl⟩, HJK2.out⟩
end Go.Proofs.YtgnkjcdkfcikeaaGreatDoor
